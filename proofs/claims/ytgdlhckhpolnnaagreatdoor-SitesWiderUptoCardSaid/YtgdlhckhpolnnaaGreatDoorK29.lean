/- Part 30 of the proof (its last part says what is proved). No condition. -/
import Derived.Test.YtgdlhckhpolnnaaGreatDoorK28
namespace Go.Proofs.YtgdlhckhpolnnaaGreatDoor
set_option maxRecDepth 100000
set_option maxHeartbeats 8000000
open Go.RowKit Go.Proofs.Tryz
section
open Go.RowKit Go.WideMaps Go.Maps
def Ys:mx:=[(⟨#[108,101,118,101,108]⟩,.agg #[.func (.func 125) #[] #[],.int .i64 1]),(⟨#[102,108,111,119]⟩,.agg #[.func (.func 126) #[] #[],.int .i64 2]),(⟨#[105,110,112,117,116]⟩,.agg #[.func (.func 127) #[] #[],.int .i64 2]),(⟨#[111,117,116,112,117,116]⟩,.agg #[.func (.func 128) #[] #[],.int .i64 2]),(⟨#[100,101,112,116,104]⟩,.agg #[.func (.func 129) #[] #[],.int .i64 1])]
theorem ZK {W:World}{b:Nat}{l:mx}(k:ByteArray)(f:Value)(C:k.size≤maxLen)(h:(l.findIdx? fun x=>k==x.1)=none)(I:Tn W b l):
 (Instr.mapUpdate 158 (.map (some b)) (.string k) f).run prog W=.ok () (zs W b (l++[(k,f)])):=by
 have J:=Vl W k (Uq l).toList none (by have:=qbO k l 0 0;rw[h] at this;simpa [Uq] using this);have o:=Gm.check W false (keyOf_string_mk underlying9 C);have j:W.heap[b]? =some (.map (Uq l) l.length):=I;unfold Instr.mapUpdate;simp[run_underlying underlying158,MapKept.run_getObj_map j,o,J,MapKept.run_setObj_map _ j,Result.andThen,WJ,zs]
theorem ZD {w:World}{l:mx}{b:Nat}(k:ByteArray)(J:k.size≤maxLen)(R:Tn w b l):
 (Instr.lookup 158 (.map (some b)) (.string k) false).run prog w=.ok ((TH l k).getD (.agg #[.nilFunc,.int .i64 0])) w:=by
 have j:=Vl w k (Uq l).toList _ (by have:=qbO k l 0 0;simpa [Uq] using this);have o:=Gm.check w (Uq l).isEmpty (keyOf_string_mk underlying9 J);have C:w.heap[b]? =some (.map (Uq l) l.length):=R;have Y:(zeroValue 157).run prog w=.ok (.agg #[.nilFunc,.int .i64 0]) w:=by kernel_rfl
 unfold Instr.lookup;simp[run_underlying underlying158,MapKept.run_getObj_map C,o,j,Result.andThen];cases h:l.findIdx? fun x=>k==x.1 with
 |none=>
  have:TH l k=none:=by rw[List.findIdx?_eq_none_iff] at h;simp only[TH,Option.map_eq_none_iff,List.find?_eq_none];intro x hx;simp[h x hx]
  simp[this,Y]
 |some i=>
  obtain⟨f,j⟩:∃f,TH l k=some f:=by(
 rw[List.findIdx?_eq_some_iff_getElem] at h;obtain⟨hi,hk,_⟩:=h;cases I:l.find? fun x=>k==x.1 with
 |none=>exact absurd hk (List.find?_eq_none.1 I _ (eL hi))
 |some f=>exact⟨f.2,by simp[TH,I]⟩)
  simp[j]
theorem YV {W:World}{b:Nat}{o:mx}(tab:mx)(i:Nat)(k:ByteArray)(f:Value)(hi:tab[i]? =some (k,f))(j:((tab.take i).findIdx? fun x=>k==x.1)=none)(C:k.size≤maxLen)(I:Tn W b o):
 (Instr.mapUpdate 158 (.map (some b)) (.string k) f).run prog (zs W b (tab.take i))=.ok () (zs W b (tab.take (i+1))):=by
 have h:=ZK k f C j (I.set (tab.take i));rw[Wj] at h;rw[cU,hi];exact h
theorem Zx (w:World):(Instr.makeMap 158 none).run prog w=.ok (.map (some w.heap.size)) (w.alloc (.map #[] 0)):=by kernel_rfl
theorem Zb (w:World):Calls prog 70 #[] w fun e w'=>∃b,e=.returned (.map (some b))∧Tn w' b Ys∧aa All w w':=by
 have hm:=Zx w;have j:=Vg w;have J:aa All w (w.alloc (.map #[] 0)):=kR.alloc _;have o:=TL j;obtain⟨b,R⟩:=eQ w.heap.size;have C:w.heap.size≤b:=by omega
 rw[←R] at hm j o;generalize w.alloc (.map #[] 0)=W at*;have Y:=YV Ys 0 ⟨#[108,101,118,101,108]⟩ (.agg #[.func (.func 125) #[] #[],.int .i64 1]) rfl rfl (by decide) j;rw[show Ys.take 0=[] from rfl,o] at Y;have u1:=YV Ys 1 ⟨#[102,108,111,119]⟩ (.agg #[.func (.func 126) #[] #[],.int .i64 2]) rfl rfl (by decide) j;have u2:=YV Ys 2 ⟨#[105,110,112,117,116]⟩ (.agg #[.func (.func 127) #[] #[],.int .i64 2]) rfl rfl (by decide) j;have u3:=YV Ys 3 ⟨#[111,117,116,112,117,116]⟩ (.agg #[.func (.func 128) #[] #[],.int .i64 2]) rfl rfl (by decide) j;have u4:=YV Ys 4 ⟨#[100,101,112,116,104]⟩ (.agg #[.func (.func 129) #[] #[],.int .i64 1]) rfl rfl (by decide) j;have I:=J3 J (j.set (Ys.take 5)) C;clear J j o R C;go_enter func70,ntmps70;go_wp2;go_ret;exact⟨b,rfl,I.2.1,TD I.1 I.2.2⟩
theorem Zv (c:Nat)(w:World)(_:c<1114112):Calls prog 34 #[.int .i32 c] w fun e w'=>e=.returned (.bool (c==32||c==9))∧w=w':=by
 have j:((c:Int)==32)=(c==32):=by rw[Bool.eq_iff_iff,cy,cy];omega
 have C:((c:Int)==9)=(c==9):=by rw[Bool.eq_iff_iff,cy,cy];omega
 cases h1:(c==32) with
 |true=>rw[h1] at j;go_enter func34,ntmps34;go_wp2;go_ret;exact⟨rfl,rfl⟩
 |false=>rw[h1] at j;rw[Bool.false_or];go_enter func34,ntmps34;go_wp2;go_ret;exact⟨rfl,rfl⟩
end
theorem Zw (rd:Nat)(l u i o f:Value)(d:Nat)(s:ByteArray)(S:Nat→Prop)(A:Option Addr)(c:Nat)(w:World)(Y:al w rd 86 #[l,u,i,o,.int .i64 0,f])(I:gB S w (.slice A 1 c) [s])(hs:s.size≤65536)(J:Ab s=true)(R:s.size=0∨Ai s 0≠45)(hn:ia s=some d)(h1:1≤d)(h2:d≤64):
 Calls prog 129 #[.pointer (some ⟨rd,0,none⟩),.slice A 1 c] w fun e w'=>e=.returned (.int .i64 0)∧aa (fun b=>b≠rd) w w'∧al w' rd 86 #[l,u,i,o,.int .i64 d,f]:=by
 obtain⟨b,q,rfl,_,hc⟩:=Bs I (i:=0) rfl;rw[dj] at hc;have x4:=Y.cl 4;have y4:=Y.free 4;have HB:=J2 Y hn;have HN:=oH (fun w1=>VU s w1 J R hs);clear Y I hn J R hs;go_enter func129,ntmps129;go_wp2_with fail;refine(HN.out _).mono ?_;rintro e w1 ⟨hk,v,rfl,I⟩;have a1:=I d HB.2;subst a1;have j:=HB.1.kept hk trivial;have x4:=j.cell 4;have y4:=j.free 4;have C:=j.set 4 (.int .i64 d);simp only[gc,ga] at x4 C;have H1:=J2 (hk.all (S:=fun b=>b≠rd)) C;have a6:decide ((d:Int)<1)=false:=by simp;omega
 have a7:decide ((64:Int)<(d:Int))=false:=by simp;omega
 clear hk j C I;go_wp2_with fail;go_ret;exact⟨rfl,H1.1.setCell (.inl fun h=>h rfl) _,H1.2⟩
theorem Zr (B rd nf:Nat)(p:aH)(o a3 a4 a5:Option Addr)(C c3 c4 c5:Nat)(s:ByteArray)(S S2:Nat→Prop)(A:Option Addr)(c:Nat)(w:World)(I:al w rd 86 #[.slice o p.MZ.length C,.slice none 0 0,.slice a3 p.Nb.length c3,.slice a4 p.Na.length c4,.int .i64 p.Nc,.slice a5 nf c5])
 (hP:dJ S w (.agg #[.slice o p.MZ.length C,.slice none 0 0,.slice a3 p.Nb.length c3,.slice a4 p.Na.length c4,.int .i64 p.Nc]) p) (hr:w.ownsRow B 9 1 (.slice o p.MZ.length C) p.MZ.length (p.MZ.map Value.string)) (hB:B≤w.heap.size) (hv:gB S2 w (.slice A 1 c) [s]) (a8:∀b,S2 b→(Value.slice o p.MZ.length C).ownBlock≠some b) (b5:eZ p s<0) (hn:p.MZ.length<64):
 Calls prog 125 #[.pointer (some ⟨rd,0,none⟩),.slice A 1 c] w fun e w'=>e=.returned (.int .i64 0)∧aa (fun b=>b≠rd∧(Value.slice o p.MZ.length C).ownBlock≠some b) w w'∧∃R Y,al w' rd 86 #[.slice R (p.MZ.length+1) Y,.slice none 0 0,.slice a3 p.Nb.length c3,.slice a4 p.Na.length c4,.int .i64 p.Nc,.slice a5 nf c5]∧
  w'.ownsRow B 9 1 (.slice R (p.MZ.length+1) Y) (p.MZ.length+1) (p.MZ.map Value.string++[.string s])∧((Value.slice R (p.MZ.length+1) Y).ownBlock=(Value.slice o p.MZ.length C).ownBlock∨∀g,(Value.slice R (p.MZ.length+1) Y).ownBlock=some g→w.heap.size≤g):=by
 obtain⟨iS,IS⟩:=iH UP;obtain⟨b,q,rfl,b2,hc⟩:=Bs hv (i:=0) rfl;have b6:=oH (a8 b b2);clear a8 b2;rw[dj] at hc;obtain⟨n,b8⟩:=eQ p.MZ.length;have HV:=oH (fun wn (j:aa All w wn)=>show wn.cell? ⟨b,q,none⟩=some (.string s)∧wn.cell? ⟨rd,0,none⟩=some (.slice o p.MZ.length C)∧wn.cell? ⟨rd,1,none⟩=some (.slice none 0 0)∧wn.cell? ⟨rd,2,none⟩=some (.slice a3 p.Nb.length c3)∧wn.cell? ⟨rd,3,none⟩=some (.slice a4 p.Na.length c4)∧wn.cell? ⟨rd,4,none⟩=some (.int .i64 p.Nc) from⟨j.cell (p:=⟨b,q,none⟩) trivial hc,(I.kept j trivial).cell 0,(I.kept j trivial).cell 1,(I.kept j trivial).cell 2,(I.kept j trivial).cell 3,(I.kept j trivial).cell 4⟩);have HL:=oH (fun wn (j:aa All w wn)=>show Calls prog 49 #[(.agg #[.slice o p.MZ.length C,.slice none 0 0,.slice a3 p.Nb.length c3,.slice a4 p.Na.length c4,.int .i64 p.Nc]),.string s] wn (fun e w'=>e=.returned (.tuple #[.int .i64 0,.bool false])∧aa All wn w') from(qB S _ p s wn (cB.keep j.all hP)).mono fun e w' h=>⟨by rw[h.1];unfold lH;rw[show max (eZ p s) 0=0 by omega,show decide (0≤eZ p s)=false by simp;omega],h.2⟩);have H0:=J3 I hr hB;clear I hP hr hB hv b5 hc;go_enter func125,ntmps125;go_upto_region 1 with fail;refine R0 13 w (fun i=>if i=7 then some (·=(.tuple #[.int .i64 0,.bool false])) else none) ?_;iterate 7 refine O4 HV.out ?_
 refine O5 (v:=(.tuple #[.int .i64 0,.bool false])) (fun wn j hp=>⟨_,_,by(skip;go_simp<;>with_reducible rfl),((HL.out wn j).mono fun e w' h=>⟨h.1,j.trans h.2,fun _ h=>by cases h⟩)⟩) ?_;iterate 5 refine O4 HV.out ?_
 refine aG fun wt J hF=>?_;have HT:=oH J;clear J hF;simp only[dK];have b3:=H0.1.kept HT.out trivial;have x0:=b3.cl 0;clear b3;have b7:((p.MZ.length:Int)==64)=false:=by simp;omega
 go_upto_region 6 with fail;clear x0;have b0:∀b,(Value.slice o p.MZ.length C).ownBlock=some b→b<w.heap.size∧b≠rd:=fun b I=>⟨(aD H0.2.1 I).2,Ot H0.2.1 I H0.1 (by decide)⟩;have HO:=J3 b0 (fun h=>(b0 rd h).2 rfl:(Value.slice o p.MZ.length C).ownBlock≠some rd) HT.out.size;have HS:=oH (fun wn (j:aa (fun b=>(Value.slice o p.MZ.length C).ownBlock≠some b) wt wn)=>show al wn rd 86 #[.slice o p.MZ.length C,.slice none 0 0,.slice a3 p.Nb.length c3,.slice a4 p.Na.length c4,.int .i64 p.Nc,.slice a5 nf c5] from(H0.1.kept HT.out trivial).kept j HO.2.1);have HQ:=oH (fun wn (j:aa (fun b=>(Value.slice o p.MZ.length C).ownBlock≠some b) wt wn)=>show wn.cell? ⟨rd,0,none⟩=some (.slice o p.MZ.length C) from(HS.out wn j).cell 0);have HW:=oH (HV.out wt HT.out);have b4:(Value.slice o p.MZ.length C).ownBlock≠some b:=b6.out;have HU:=oH (fun wn (j:aa (fun b=>(Value.slice o p.MZ.length C).ownBlock≠some b) wt wn)=>show wn.cell? ⟨b,q,none⟩=some (.string s) from j.cell (p:=⟨b,q,none⟩) b4 HW.1);clear b4 b0;refine bq 14 (DL wt B 9 1 (.slice o p.MZ.length C) p.MZ.length (p.MZ.map Value.string)) [35,36] (NH wt B 9 1 (.slice o p.MZ.length C) p.MZ.length (p.MZ.map Value.string) [.string s] 35) (fun i=>if i=10 then some (NT p.MZ.length) else if i=9 then some Oa else none) (fun _=>false) (fun _ _=>False) (by kernel_rfl) (by kernel_rfl) (by kernel_rfl) (by kernel_rfl) (DL.first (be H0.2.1 HT.out fun _ _=>trivial)) (fun _ _ _ h=>h.elim) ?_;simp only[tK];iterate 9 first|refine O3 (fun wn j hp=>by(have e0:=HQ.out wn j.1;go_simp;with_reducible rfl)) ?_|refine O3 (fun wn j hp=>by(have e0:=HU.out wn j.1;go_simp;with_reducible rfl)) ?_|refine O0 ?_
 refine PE (by rfl) (by rfl) (by rfl) rfl (fun wn j hp=>by(skip;go_simp<;>with_reducible rfl)) ?_;intro g;simp only[PS];refine Ov (by rfl) (by rfl) (by rfl) rfl (by decide) (.tmp 31) 22 rfl iS _ 16 underlying22 IS.1 IS.2.1 IS.2.2.1 IS.2.2.2 rfl (by decide) rfl g rfl (by decide) rfl (by intro u hu;rw[cx.1 hu];rfl) (by unfold maxLen;omega) (by omega) (by have:=HO.2.2;have:=H0.2.2;omega) (fun b I=>by have:=(HO.1 b I).1;have:=HO.2.2;omega) ?_;intro R Y;simp only[PS];iterate 3 refine O0 ?_
 refine aG fun w3 J hF=>?_;have a6:=hF 36 (by simp) _ rfl;unfold NH at a6;rw[ae (by decide)] at a6;have H3:=J2 J.1 a6;clear J hF a6;simp only[dK];have a7:=HS.out w3 H3.1;have z0:=a7.cell 0;have f0:=a7.free 0;have b1:=a7.set 0 (.slice R (p.MZ.length+1) Y);simp only[gc,ga] at z0 b1;have H4:=oH b1;clear a7 b1;go_wp2_with fail;go_ret;have kF:aa (fun b=>b≠rd∧(Value.slice o p.MZ.length C).ownBlock≠some b) w (w3.setCell ⟨rd,0,none⟩ (.slice R (p.MZ.length+1) Y)):=((HT.out.all.trans (H3.1.mono fun b I=>I.2)).setCell (.inl fun h=>h.1 rfl) _);have k4:aa (fun b=>b≠rd) w3 (w3.setCell ⟨rd,0,none⟩ (.slice R (p.MZ.length+1) Y)):=kR.setCell (.inl fun h=>h rfl) _;refine⟨rfl,kF,R,Y,H4.out,be H3.2.1 k4 fun g hg=>Ot H3.2.1 hg (HS.out w3 H3.1) (by decide),?_⟩;rcases H3.2.2 with h|h;·exact .inl h
 exact .inr fun g hg=>by have:=h g hg;have:=HO.2.2;omega
theorem Yr:(prog.info? 226).map (fun i=>(i.zero,i.size,i.bytes))=some (some (.agg #[.string ⟨#[]⟩,.int .i64 0]),2,24):=by kernel_rfl
theorem ZH (B rd n1 nf:Nat)(d:Int)(p:aH)(a1 a4 a5:Option Addr)(c1 n4 c4 c5:Nat)(s s2:ByteArray)(L:Nat)(S S2:Nat→Prop)(A:Option Addr)(c:Nat)(w:World)(C:al w rd 86 #[.slice a1 n1 c1,.slice none 0 0,.slice none 0 0,.slice a4 n4 c4,.int .i64 d,.slice a5 nf c5])
 (hP:dJ S w (.agg #[.slice a1 n1 c1,.slice none 0 0,.slice none 0 0,.slice a4 n4 c4,.int .i64 d]) p) (hB:B≤w.heap.size) (hv:gB S2 w (.slice A 2 c) [s,s2]) (hL:eZ p s2=L) (_:s.size≤65536):
 Calls prog 188 #[.pointer (some ⟨rd,0,none⟩),.pointer (some ⟨rd,2,none⟩),.slice A 2 c] w fun e w'=>e=.returned (.int .i64 0)∧aa (fun b=>b≠rd) w w'∧∃I J,al w' rd 86 #[.slice a1 n1 c1,.slice none 0 0,.slice I 1 J,.slice a4 n4 c4,.int .i64 d,.slice a5 nf c5]∧
  w'.ownsRow B 226 2 (.slice I 1 J) 1 [.string s,.int .i64 L]∧∀g,(Value.slice I 1 J).ownBlock=some g→w.heap.size≤g:=by
 obtain⟨iS,IS⟩:=iH Yr;obtain⟨b,q,rfl,b4,hc⟩:=Bs hv (i:=0) rfl;obtain⟨b2,q2,e2,_,a8⟩:=Bs hv (i:=1) rfl;cases e2;rw[dj] at hc;clear b4;have HV:=oH (fun wn (j:aa All w wn)=>show wn.cell? ⟨b,q,none⟩=some (.string s)∧wn.cell? ⟨b,q+1,none⟩=some (.string s2)∧wn.cell? ⟨rd,0,none⟩=some (.slice a1 n1 c1)∧wn.cell? ⟨rd,1,none⟩=some (.slice none 0 0)∧wn.cell? ⟨rd,2,none⟩=some (.slice none 0 0)∧wn.cell? ⟨rd,3,none⟩=some (.slice a4 n4 c4)∧wn.cell? ⟨rd,4,none⟩=some (.int .i64 d) from⟨j.cell (p:=⟨b,q,none⟩) trivial hc,j.cell (p:=⟨b,q+1,none⟩) trivial a8,(C.kept j trivial).cell 0,(C.kept j trivial).cell 1,(C.kept j trivial).cell 2,(C.kept j trivial).cell 3,(C.kept j trivial).cell 4⟩);have HL:=oH (fun wn (j:aa All w wn)=>show Calls prog 49 #[(.agg #[.slice a1 n1 c1,.slice none 0 0,.slice none 0 0,.slice a4 n4 c4,.int .i64 d]),.string s2] wn (fun e w'=>e=.returned (.tuple #[.int .i64 L,.bool true])∧aa All wn w') from(qB S _ p s2 wn (cB.keep j.all hP)).mono fun e w' h=>⟨by rw[h.1];unfold lH;rw[hL,show max (L:Int) 0=L by omega,show decide ((0:Int)≤(L:Int))=true by simp],h.2⟩);have HC:=oH (fun wn=>show Calls prog 150 #[.slice none 0 0,.func (.func 151) #[] #[],.string s] wn (fun e w'=>e=.returned (.tuple #[.int .i64 0,.bool false])∧aa All wn w') from qt (fun _=>False) _ [] s wn rx.nil);have H0:=J2 C hB;clear C hP hB hv hL hc a8;go_enter func188,ntmps188;go_upto_region 1 with fail;refine R0 12 w (fun i=>if i=6 then some (·=(.tuple #[.int .i64 0,.bool false])) else none) ?_;iterate 6 refine O4 HV.out ?_
 refine O5 (v:=(.tuple #[.int .i64 0,.bool false])) (fun wn j hp=>⟨_,_,by(skip;go_simp<;>with_reducible rfl),(((fun wn (_:aa All w wn)=>HC.out wn) wn j).mono fun e w' h=>⟨h.1,j.trans h.2,fun _ h=>by cases h⟩)⟩) ?_;iterate 5 refine O4 HV.out ?_
 refine aG fun wt o hF=>?_;have HT:=oH o;clear o hF;simp only[dK];have a6:=oH HT.out;clear HT;go_upto_region 4 with fail;have b0:=oH (fun wn (j:aa All wt wn)=>HV.out wn (a6.out.trans j));have b5:=oH (fun wn (j:aa All wt wn)=>HL.out wn (a6.out.trans j));obtain⟨wq,b6⟩:=eQ wt;subst b6;refine R0 13 wq (fun i=>if i=7 then some (·=(.tuple #[.int .i64 L,.bool true])) else none) ?_;iterate 7 refine O4 b0.out ?_
 refine O5 (v:=(.tuple #[.int .i64 L,.bool true])) (fun wn j hp=>⟨_,_,by(skip;go_simp<;>with_reducible rfl),((b5.out wn j).mono fun e w' h=>⟨h.1,j.trans h.2,fun _ h=>by cases h⟩)⟩) ?_;iterate 5 refine O4 b0.out ?_
 refine aG fun wt o hF=>?_;have HT:=oH o;clear o hF;simp only[dK];have HK:=oH (a6.out.trans HT.out);have b1:=H0.1.kept HK.out trivial;have x0:=b1.cl 2;clear b1;go_upto_region 9 with fail;clear x0;have HS:=oH (fun wn (j:aa (fun b=>(Value.slice none 0 0).ownBlock≠some b) wt wn)=>show al wn rd 86 #[.slice a1 n1 c1,.slice none 0 0,.slice none 0 0,.slice a4 n4 c4,.int .i64 d,.slice a5 nf c5] from(H0.1.kept HK.out trivial).kept j (fun h=>by cases h));have HQ:=oH (fun wn (j:aa (fun b=>(Value.slice none 0 0).ownBlock≠some b) wt wn)=>show wn.cell? ⟨rd,2,none⟩=some (.slice none 0 0) from(HS.out wn j).cell 2);have HU:=oH (fun wn (j:aa (fun b=>(Value.slice none 0 0).ownBlock≠some b) wt wn)=>show wn.cell? ⟨b,q,none⟩=some (.string s) from j.cell (p:=⟨b,q,none⟩) (fun h=>by cases h) (HV.out wt HK.out).1);have b3:wt.ownsRow B 226 2 (.slice none 0 0) 0 []:=⟨rfl,.inl ⟨rfl,rfl⟩⟩;have b7:=oH b3;clear b3;refine bq 12 (DL wt B 226 2 (.slice none 0 0) 0 []) [49,50] (NH wt B 226 2 (.slice none 0 0) 0 [] [.string s,.int .i64 L] 49) (fun i=>if i=10 then some (NT 0) else if i=9 then some Oa else none) (fun _=>false) (fun _ _=>False) (by kernel_rfl) (by kernel_rfl) (by kernel_rfl) (by kernel_rfl) (DL.first b7.out) (fun _ _ _ h=>h.elim) ?_;simp only[tK];iterate 9 first|refine O3 (fun wn j hp=>by(have e0:=HQ.out wn j.1;go_simp;with_reducible rfl)) ?_|refine O3 (fun wn j hp=>by(have e0:=HU.out wn j.1;go_simp;with_reducible rfl)) ?_|refine O0 ?_
 refine PE (by rfl) (by rfl) (by rfl) rfl (fun wn j hp=>by(skip;go_simp<;>with_reducible rfl)) ?_;intro g;simp only[PS];refine Ov (by rfl) (by rfl) (by rfl) rfl (by decide) (.tmp 43) 24 rfl iS _ 24 underlying24 IS.1 IS.2.1 IS.2.2.1 IS.2.2.2 rfl (by decide) rfl g rfl (by decide) rfl (by intro u hu;simp only[fX,List.not_mem_nil,or_false] at hu;rcases hu with rfl|rfl<;>rfl) (by unfold maxLen;omega) (by omega) (by have:=HK.out.size;have:=H0.2;omega) (fun b C=>by cases C) ?_;intro I J;simp only[PS];refine O0 ?_;refine aG fun w3 o hF=>?_;have R:=hF 50 (by simp) _ rfl;unfold NH at R;rw[ae (by decide)] at R;have H3:=J2 o.1 R;clear o hF R;simp only[dK];have Y:=HS.out w3 H3.1;have z0:=Y.cell 2;have f0:=Y.free 2;have a7:=Y.set 2 (.slice I 1 J);simp only[gc,ga] at z0 a7;have H4:=oH a7;clear Y a7;go_wp2_with fail;go_ret;have kF:aa (fun b=>b≠rd) w (w3.setCell ⟨rd,2,none⟩ (.slice I 1 J)):=((HK.out.all.trans (H3.1.mono fun b C h=>by cases h)).setCell (.inl fun h=>h rfl) _);have k4:aa (fun b=>b≠rd) w3 (w3.setCell ⟨rd,2,none⟩ (.slice I 1 J)):=kR.setCell (.inl fun h=>h rfl) _;refine⟨rfl,kF,I,J,H4.out,be H3.2.1 k4 fun g hg=>Ot H3.2.1 hg (HS.out w3 H3.1) (by decide),?_⟩;rcases H3.2.2 with h|h;·exact fun g hg=>by have h2:(Value.slice I 1 J).ownBlock=none:=h;rw[h2] at hg;cases hg
 exact fun g hg=>by have:=h g hg;have:=HK.out.size;omega
theorem Zq (B rd o nf:Nat)(d:Int)(p:aH)(C a4 a5:Option Addr)(I J R Y:Nat)(s s2:ByteArray)(L:Nat)(S S2:Nat→Prop)(A:Option Addr)(c:Nat)(w:World)(hb:al w rd 86 #[.slice C o I,.slice none 0 0,.slice none 0 0,.slice a4 J R,.int .i64 d,.slice a5 nf Y])
 (hP:dJ S w (.agg #[.slice C o I,.slice none 0 0,.slice none 0 0,.slice a4 J R,.int .i64 d]) p) (hB:B≤w.heap.size) (hv:gB S2 w (.slice A 2 c) [s,s2]) (hL:eZ p s2=L) (j:s.size≤65536):
 Calls prog 127 #[.pointer (some ⟨rd,0,none⟩),.slice A 2 c] w fun e w'=>e=.returned (.int .i64 0)∧aa (fun b=>b≠rd) w w'∧∃A5 C5,al w' rd 86 #[.slice C o I,.slice none 0 0,.slice A5 1 C5,.slice a4 J R,.int .i64 d,.slice a5 nf Y]∧
  w'.ownsRow B 226 2 (.slice A5 1 C5) 1 [.string s,.int .i64 L]∧∀g,(Value.slice A5 1 C5).ownBlock=some g→w.heap.size≤g:=by
 have HC:=oH (ZH B rd o nf d p C a4 a5 I J R Y s s2 L S S2 A c w hb hP hB hv hL j);clear hb hP hB hv hL j;go_enter func127,ntmps127;go_wp2_with fail;refine HC.out.mono ?_;rintro e w' ⟨rfl,h⟩;have H:=oH h;clear h;go_wp2_with fail;go_ret;exact⟨rfl,H.out⟩
def YG:cO (Nat×Nat):=fun _ _ cs x=>cs=[.int .i64 x.1,.int .i64 x.2]
theorem Yb:cO.Good YG:=⟨fun _ h=>h,fun _ h=>h⟩
section
attribute [local go_sem] pm lU jt mU List.getElem?_toArray List.getElem?_cons_zero
theorem YL (w:World)(x y z:BitVec 64)(h:x|||y=z):(binOp .or 163 (U x) (U y)).run prog w=.ok (U z) w:=by subst h;exact xr ..
theorem YM {w W:World}{b j:Nat}{v:Value}(h:aa All w W)(o:w.heap.size≤b):aa All w (W.setCell ⟨b,j,none⟩ v):=by have h1:aa (fun i=>i<w.heap.size) w (W.setCell ⟨b,j,none⟩ v):=(h.mono fun _ _=>trivial).setCell (.inl fun h=>by have:b<w.heap.size:=h;omega) _;exact⟨h1.os,h1.output,h1.size,fun i hi C=>h1.block i hi hi⟩
end
def Vo {α:Type}(e:TypeId)(E:cO α)(B:Nat)(w:World)(v:Value)(l:List α):Prop:=(l=[]→v=.slice none 0 0)∧dR 2 e E B w v l
theorem Vo.keep {α:Type}{e:TypeId}{E:cO α}(g:cO.Good E){S:Nat→Prop}{B:Nat}{w w':World}{v:Value}{l:List α}(h:Vo e E B w v l)(k:aa S w w')(j:∀b,B≤b→b<w.heap.size→S b):Vo e E B w' v l:=⟨h.1,h.2.keep g k j⟩
theorem Vo.zero {α:Type}{e:TypeId}{E:cO α}{B:Nat}{w w':World}{v:Value}{l:List α}(h:Vo e E B w v l)(hl:l=[]):Vo e E B w' v l:=by subst hl;have:=h.1 rfl;subst this;exact⟨fun _=>rfl,dR.nil⟩
structure Yx (B rd:Nat)(W:World)(p:aH)(fl:List (Nat×Nat)):Prop where
 low:rd<B
 size:B≤W.heap.size
 up:p.up=[]
 dep:0≤p.Nc∧p.Nc≤64
 few:p.MZ.length<64∧p.Nb.length<100∧p.Na.length<100
 box:∃a1 c1 a3 c3 a4 c4 a5 c5,al W rd 86 #[.slice a1 p.MZ.length c1,.slice none 0 0,.slice a3 p.Nb.length c3,.slice a4 p.Na.length c4,.int .i64 p.Nc,.slice a5 fl.length c5]∧
  W.ownsRow B 9 1 (.slice a1 p.MZ.length c1) p.MZ.length (p.MZ.map Value.string)∧Vo 226 uy B W (.slice a3 p.Nb.length c3) p.Nb∧Vo 226 uy B W (.slice a4 p.Na.length c4) p.Na∧Vo 165 YG B W (.slice a5 fl.length c5) fl
theorem Yx.keep {B rd:Nat}{W j:World}{p:aH}{fl:List (Nat×Nat)}(h:Yx B rd W p fl)(k:aa (fun b=>b=rd∨B≤b) W j):Yx B rd j p fl:=by obtain⟨C,I,a3,c3,a4,J,a5,R,h1,o,Y,h4,h5⟩:=h.box;exact⟨h.low,fR h.size k.size,h.up,h.dep,h.few,C,I,a3,c3,a4,J,a5,R,h1.kept k (.inl rfl),be o k (fun g hg=>.inr (aD o hg).1),Y.keep FM k (fun b h1 _=>.inr h1),h4.keep FM k (fun b h1 _=>.inr h1),h5.keep Yb k (fun b h1 _=>.inr h1)⟩
theorem YW {n:Int}(h1: -1000≤n)(j:n≤1000):(Lit.int .i64 n).wf=true:=by simp only[Lit.wf,IntKind.min,IntKind.max,IntKind.signed,IntKind.bits,gE,qal,if_true];omega
theorem YX {w:World}{B:Nat}{v:Value}{l:List ByteArray}(h:w.ownsRow B 9 1 v l.length (l.map Value.string))(hl:l.length≤1000000):gB (fun b=>B≤b∧b<w.heap.size) w v l:=by refine Sl.of_own h (by omega) (fun g j=>aD h j) fun i x o=>⟨.string x,?_,rfl⟩;rw[cL,o];rfl
theorem Yx.pol {B:Nat}{W:World}{p:aH}{j a3 a4:Option Addr}{o c3 C:Nat}(hu:p.up=[])(I:0≤p.Nc∧p.Nc≤64)(hf:p.MZ.length<64∧p.Nb.length<100∧p.Na.length<100)
 (J:W.ownsRow B 9 1 (.slice j p.MZ.length o) p.MZ.length (p.MZ.map Value.string)) (R:Vo 226 uy B W (.slice a3 p.Nb.length c3) p.Nb) (Y:Vo 226 uy B W (.slice a4 p.Na.length C) p.Na):
 dJ (fun b=>B≤b∧b<W.heap.size) W (.agg #[.slice j p.MZ.length o,.slice none 0 0,.slice a3 p.Nb.length c3,.slice a4 p.Na.length C,.int .i64 p.Nc]) p:=
 ⟨_,_,_,_,rfl,YX J (by omega),by rw[hu];exact Sl.nil,R.2.read (bw:=24) FM (by omega),Y.2.read (bw:=24) FM (by omega),YW (by have:=I.1;omega) (by have:=I.2;omega)⟩
def YS (B rd:Nat)(w:World)(p:aH)(fl:List (Nat×Nat))(e:Ending)(w':World):Prop:=e=.returned (.int .i64 0)∧aa (fun b=>b<B∧b≠rd) w w'∧Yx B rd w' p fl
theorem Zf {B:Nat}{w:World}{o:Option Addr}{C:Nat}{s:ByteArray}{L:Nat}(h:w.ownsRow B 226 2 (.slice o 1 C) 1 [.string s,.int .i64 L])(J:L≤64):Vo 226 uy B w (.slice o 1 C) [(s,(L:Int))]:=by
 refine⟨(fun e=>by cases e),?_⟩;refine⟨[[.string s,.int .i64 L]],fun _=>False,h,rfl,(fun cs I=>by rw[cx.1 I];rfl),fun _ h=>h.elim,fun i x j=>?_⟩
 match i,j with
 |0,j=>cases j;exact⟨_,rfl,rfl,YW (by omega) (by omega)⟩
 |(i+1),j=>simp at j
theorem Za (B rd:Nat)(p:aH)(w:World)(h:Yx B rd w p [])(hi:p.Nb=[])(R:p.Na=[])(s:ByteArray)(Y:Nat→Prop)(A:Option Addr)(c:Nat)(hv:gB Y w (.slice A 1 c) [s])(hs:∀b,Y b→∃o:World,Yx B rd o p []∧o.heap.size≤b∧aa (fun b=>b=rd∨B≤b) o w)(a6:eZ p s<0)(hn:p.MZ.length<63):
 Calls prog 125 #[.pointer (some ⟨rd,0,none⟩),.slice A 1 c] w (YS B rd w {p with MZ:=p.MZ++[s]} []):=by
 obtain⟨a1,c1,a3,c3,a4,c4,a5,c5,h1,C,h3,h4,h5⟩:=h.box;refine(Zr B rd 0 p a1 a3 a4 a5 c1 c3 c4 c5 s _ Y A c w h1 (Yx.pol h.up h.dep h.few C h3 h4) C h.size hv ?_ a6 (by omega)).mono ?_;·intro b j he;obtain⟨o,R,hle,I⟩:=hs b j;obtain⟨b1,d1,b3,d3,b4,d4,b5,d5,g1,g2,_⟩:=R.box;have a7:=g1.kept I (.inl rfl);have e1:=a7.cl 0;have J:=h1.cl 0;rw[e1] at J;injection J with J;rw[←J] at he;have:=(aD g2 he).2;omega
 rintro e w' ⟨rfl,I,A5,C5,j,hr,_⟩;have a8:=I.size;have b0:=h.low;have b2:(Value.slice a1 p.MZ.length c1).ownBlock≠some rd:=fun e=>by have:=(aD C e).1;omega
 refine⟨rfl,I.mono fun b j=>⟨j.2,fun e=>by have:=(aD C e).1;omega⟩,h.low,fR h.size a8,h.up,h.dep,⟨by rw[iQ];show p.MZ.length+1<64;omega,h.few.2⟩,A5,C5,a3,c3,a4,c4,a5,c5,?_,?_,h3.zero hi,h4.zero R,h5.zero rfl⟩
 ·show al w' rd _ #[.slice A5 (p.MZ++[s]).length C5,_,_,_,_,_]
  rw[iQ];exact j
 show w'.ownsRow B _ 1 (.slice A5 (p.MZ++[s]).length C5) (p.MZ++[s]).length ((p.MZ++[s]).map Value.string);rw[iQ,ic];exact hr
theorem Zu (B rd:Nat)(p:aH)(fl:List (Nat×Nat))(w:World)(h:Yx B rd w p fl)(hi:p.Nb=[])(s s2:ByteArray)(Y:Nat→Prop)(A:Option Addr)(c:Nat)(hv:gB Y w (.slice A 2 c) [s,s2])(L:Nat)(hL:eZ p s2=L)(hz:L≤64)(hs:s.size≤65536):
 Calls prog 127 #[.pointer (some ⟨rd,0,none⟩),.slice A 2 c] w (YS B rd w {p with Nb:=[(s,(L:Int))]} fl):=by
 obtain⟨a1,c1,a3,c3,a4,c4,a5,c5,h1,I,h3,h4,h5⟩:=h.box;have hp:=Yx.pol h.up h.dep h.few I h3 h4;have J:=h3.1 hi;injection J with J e6 e7;subst J;subst e7;rw[e6] at h1 hp;refine(Zq B rd _ _ p.Nc p a1 a4 a5 c1 _ c4 c5 s s2 L _ Y A c w h1 hp h.size hv hL hs).mono ?_;rintro e w' ⟨rfl,o,A5,C5,C,hr,_⟩;have R:=o.size;have a6:=h.low;have j:∀b,B≤b→b≠rd:=fun b C=>by omega
 exact⟨rfl,o.mono fun b C=>C.2,h.low,fR h.size R,h.up,h.dep,⟨h.few.1,by show 1<100;decide,h.few.2.2⟩,a1,c1,A5,C5,a4,c4,a5,c5,C,be I o (fun g hg=>j _ (aD I hg).1),Zf hr hz,h4.keep FM o (fun b h1 _=>j _ h1),h5.keep Yb o (fun b h1 _=>j _ h1)⟩
theorem Zt (B rd:Nat)(p:aH)(fl:List (Nat×Nat))(w:World)(h:Yx B rd w p fl)(hi:p.Nc=0)(s:ByteArray)(S2:Nat→Prop)(A:Option Addr)(c d:Nat)(hv:gB S2 w (.slice A 1 c) [s])(hs:s.size≤65536)(I:Ab s=true)(J:s.size=0∨Ai s 0≠45)(hn:ia s=some d)(R:1≤d)(Y:d≤64):
 Calls prog 129 #[.pointer (some ⟨rd,0,none⟩),.slice A 1 c] w (YS B rd w {p with Nc:=(d:Int)} fl):=by
 obtain⟨a1,c1,a3,c3,a4,c4,a5,c5,h1,h2,h3,h4,h5⟩:=h.box;rw[hi] at h1;refine(Zw rd _ _ _ _ _ d s S2 A c w h1 hv hs I J hn R Y).mono ?_;rintro e w' ⟨rfl,o,C⟩;have a6:=o.size;have a7:=h.low;have j:∀b,B≤b→b≠rd:=fun b C=>by omega
 exact⟨rfl,o.mono fun b C=>C.2,h.low,fR h.size a6,h.up,⟨by show(0:Int)≤d;omega,by show(d:Int)≤64;omega⟩,h.few,a1,c1,a3,c3,a4,c4,a5,c5,C,be h2 o (fun g hg=>j _ (aD h2 hg).1),h3.keep FM o (fun b h1 _=>j _ h1),h4.keep FM o (fun b h1 _=>j _ h1),h5.keep Yb o (fun b h1 _=>j _ h1)⟩
section
def XY (s:ByteArray):Bool:=(List.range 13).any fun i=>decide (0<i)&&(nt i).toList==s.toList
theorem Xf (f:FuncId)(w:World):(binOp .neq 269 (.func (.func f) #[] #[]) .nilFunc).run prog w=.ok (.bool true) w:=by kernel_rfl
theorem Ya (f:FuncId)(w:World):(binOp .eql 269 (.func (.func f) #[] #[]) .nilFunc).run prog w=.ok (.bool false) w:=by kernel_rfl
theorem XQ (w:World):(binOp .neq 269 .nilFunc .nilFunc).run prog w=.ok (.bool false) w:=by kernel_rfl
theorem XP (w:World):(binOp .eql 269 .nilFunc .nilFunc).run prog w=.ok (.bool true) w:=by kernel_rfl
attribute [local go_sem] Xf
theorem TZ {p:cr}{x x':cX}{k k':Nat}(h:Uz p x k=some (x',k')):
 (p.txt k=UO∧∃n,p.is (k+1) 3=true∧ia (p.txt (k+1))=some n∧x'= {x with kind:=1,num:=n}∧k'=k+1+1)∨
 (p.txt k=WZ∧p.txt (k+1)=Yv∧∃fr C o,UH p 65 0 (k+1+1) [] []=some (fr,C,o)∧p.txt o=Yw∧x'= {x with kind:=3,Nh:=fr,args:=C}∧k'=o+1):=by
 unfold Uz at h;split at h
 ·rename_i h1;left;unfold Ty at h;by_cases j:p.is (k+1) 3=true
  ·simp only[j,if_true,Option.bind_eq_bind,Option.bind_some] at h;cases J:ia (p.txt (k+1)) with
   |none=>rw[J] at h;cases h
   |some n=>rw[J] at h;cases h;exact⟨h1,n,j,rfl,rfl,rfl⟩
  simp[j] at h
 split at h;·(
 rename_i h1;right;unfold TR at h;by_cases j:p.txt (k+1)=Yv
 ·simp only[j,if_true,Option.bind_eq_bind,Option.bind_some] at h;cases R:UH p 65 0 (k+1+1) [] [] with
  |none=>rw[R] at h;cases h
  |some r=>
   obtain⟨fr,C,o⟩:=r;rw[R] at h;simp only[Option.bind_some] at h;by_cases I:p.txt o=Yw;·simp only[I,if_true,Option.bind_some] at h;cases h;exact⟨h1,j,fr,C,o,rfl,I,rfl,rfl⟩
   simp[I] at h
 simp[j] at h)
 cases h
end
section
attribute [local go_sem] Xf Ya XQ XP
def wg (x:cX)(a f:Value):Array Value:=#[.int .u8 x.kind,.int .u8 x.op,.string x.dst,.string x.ref,.string x.Ni,a,f,.int .i64 x.num,.int .i64 x.Nj]
theorem qcD {w:World}{B:Nat}{v:Value}{l:List ByteArray}{S:Nat→Prop}(h:Tx B w v l)(hl:l.length≤1000000)(o:∀b,B≤b→b<w.heap.size→S b):gB S w v l:=by refine Sl.of_own h (by omega) (fun g j=>o g (aD h j).1 (aD h j).2) fun i x C=>⟨.string x,?_,rfl⟩;rw[cL,C];rfl
def Vn (pb:Nat)(p:cr)(A:Option Addr)(C k' j:Nat)(x:cX)(w:World)(e:Ending)(w':World):Prop:=
 wi pb p A C k' j w w'∧∃a f:Value,e=.returned (.agg (wg x a f))∧gB (fun b=>w.heap.size≤b∧b<w'.heap.size) w' a x.args∧gB (fun b=>w.heap.size≤b∧b<w'.heap.size) w' f x.Nh
theorem St.code {o w:World}{B pb I m k:Nat}{p:cr}{A:Option Addr}{C:Nat}{x:cX}(h:St o B pb I p A C m k x w):St o B pb I p A C (m+1) k x (w.setCell ⟨pb,3,none⟩ (.int .i64 ((m:Int)+1))):=by have J:aa (fun b=>b≠pb) w (w.setCell ⟨pb,3,none⟩ (.int .i64 ((m:Int)+1))):=kR.setCell (.inl fun h=>h rfl) _;have hm:wi pb p A C k (m+1) w (w.setCell ⟨pb,3,none⟩ (.int .i64 ((m:Int)+1))):=⟨J,by simpa using h.par.box.set 3 (.int .i64 ((m:Int)+1)),cu.wide (fun b j=>⟨j.1,by have:=h.par.size;simp;omega⟩) (cu.keep (J.mono fun b j=>j.1) h.par.toks),h.par.le⟩;exact h.moved hm
theorem VM {p:cr}:∀ {f n k:Nat} {fr I j o:List ByteArray} {k':Nat},UH p f n k fr I=some (j,o,k')→j.length≤fr.length+f∧o.length≤I.length+f
 |0,_,_,_,_,_,_,_,h=>by cases h
 |f+1,n,k,fr,I,j,o,k',h=>by(
 obtain⟨_,_,_,_,J⟩:=Uv h;split at J;·have Y:=VM J;rw[iQ,iQ] at Y;have R:[p.txt k].length=1:=rfl;have C:[p.txt (k+1+1)].length=1:=rfl;omega
 injection J with R C;injection C with C e3;subst R;subst C;rw[iQ,iQ];have R:[p.txt k].length=1:=rfl;have C:[p.txt (k+1+1)].length=1:=rfl;omega)
theorem WT {p:cr}{x x':cX}{k k':Nat}(h:Uz p x k=some (x',k'))(j:x.args=[]:=by rfl)(o:x.Nh=[]:=by rfl):x'.args.length≤1000∧x'.Nh.length≤1000:=by
 rcases TZ h with ⟨_,n,_,_,rfl,_⟩|⟨_,_,fr,C,J,I,_,rfl,_⟩
 ·rw[show({x with kind:=1,num:=(n:Int)}:cX).args=[] from j,show({x with kind:=1,num:=(n:Int)}:cX).Nh=[] from o]
  exact⟨by decide,by decide⟩
 have:=VM I;have e:([]:List ByteArray).length=0:=rfl;show C.length≤_∧fr.length≤_;omega
theorem Yc {p:cr}(o:p.Ok){k:Nat}(h:p.is k 1=true):jv (p.txt k)=false:=by
 unfold cr.is at h;unfold cr.txt;cases j:p.l[k]? with
 |none=>rw[j] at h;cases h
 |some t=>rw[j] at h;exact o.word t (mG j) (by simpa using h)
theorem Vr {s t:ByteArray}(h:(s==t)=true):s=t:=by cases s;cases t;have h':(_==_)=true:=h;congr 1;exact eq_of_beq h
theorem WL {s:ByteArray}(h:jv s=false):TH UN s=none:=by
 unfold TH;rw[Option.map_eq_none_iff,List.find?_eq_none];intro x j he;have e:s=x.1:=Vr he;have:jv x.1=true:=by unfold UN at j;simp only[fX,List.not_mem_nil,or_false] at j;rcases j with rfl|rfl|rfl|rfl|rfl<;>kernel_rfl
 rw[e,this] at h;cases h
theorem XO {j w:World}{B I pb J m k R m2:Nat}{p:cr}{A:Option Addr}{C:Nat}{x:cX}(h:St j B pb J p A C m k x w)(hB:B=j.heap.size)(hl:gz j)(o:PB j I pb p A C R m2):gz w:=by
 have Y:=o.box.cl 0;have q2:=o.box.cl 2;refine⟨fun i hi=>h.kept.cell (p:=⟨4,i,none⟩) ⟨?_,?_⟩ (hl.1 i hi),fun i hi=>h.kept.cell (p:=⟨3,i,none⟩) ⟨?_,?_⟩ (hl.2 i hi)⟩
 ·rintro rfl
  have:=hl.1 0 (by decide);rw[Y] at this;cases this
 ·rw[hB];exact jy j _ (hl.1 i hi)
 ·rintro rfl
  have:=hl.2 2 (by decide);rw[q2] at this;cases this
 rw[hB];exact jy j _ (hl.2 i hi)
theorem XL {j:Ending→World→Prop}{a:Act}{W:World}{g:Nat}{x:cX}{u v:Value}(o:a.tmps[2]? =some (.pointer (some ⟨g,0,none⟩)))(C:a.defers=[])
 (c:al W g 188 (wg x u v)) (h:j (.returned (.agg (wg x u v))) W):bodyPost prog Tryz.f149 j .ret a W:=by
 unfold wg at c;obtain⟨I,r1,r2,J,R,Y,r6,r7,r8⟩:=c.c9;exact bodyPost_ret (by simp[results,Tryz.results149,go_sem,o,I,r1,r2,J,R,Y,r6,r7,r8,wg]) C h
theorem UK (pb:Nat)(p:cr)(A:Option Addr)(C k m k0 m0:Nat)(x:cX)(w I W:World)(J R:Option Addr)(aC fC:Nat)(B xb:Nat)(a:Act)(ht:a.tmps[2]? =some (.pointer (some ⟨w.heap.size,0,none⟩)))(hd:a.defers=[])(hP:Uo w pb p A C k0 m0)(a1:aa All w I)(hB:B=I.heap.size)
 (Y:St I B pb xb p A C m k x W) {cs:List Value} (o:al W w.heap.size 188 cs.toArray) (a6:cs.length=9) (hw:w.heap.size<I.heap.size) (ra:Tx B W (.slice J x.args.length aC) x.args) (rf:Tx B W (.slice R x.Nh.length fC) x.Nh) (l1:x.args.length≤1000) (l2:x.Nh.length≤1000):
 bodyPost prog Tryz.f149 (Vn pb p A C k m x w) .ret a (((((((((W.setCell ⟨w.heap.size,0,none⟩ (.int .u8 x.kind)).setCell ⟨w.heap.size,1,none⟩ (.int .u8 x.op)).setCell ⟨w.heap.size,2,none⟩ (.string x.dst)).setCell ⟨w.heap.size,3,none⟩ (.string x.ref)).setCell ⟨w.heap.size,4,none⟩ (.string x.Ni)).setCell ⟨w.heap.size,5,none⟩ (.slice J x.args.length aC)).setCell ⟨w.heap.size,6,none⟩ (.slice R x.Nh.length fC)).setCell ⟨w.heap.size,7,none⟩ (.int .i64 x.num)).setCell ⟨w.heap.size,8,none⟩ (.int .i64 x.Nj)):=by
 obtain⟨c0,c1,c2,c3,c4,c5,c6,c7,c8,rfl⟩:∃c0 c1 c2 c3 c4 c5 c6 c7 c8,cs=[c0,c1,c2,c3,c4,c5,c6,c7,c8]:=by
  match cs,a6 with
  | [a,b,c,d,e,f,g,h,i],_=>exact⟨a,b,c,d,e,f,g,h,i,rfl⟩
 have bF:=((((((((o.set 0 (.int .u8 x.kind)).set 1 (.int .u8 x.op)).set 2 (.string x.dst)).set 3 (.string x.ref)).set 4 (.string x.Ni)).set 5 (.slice J x.args.length aC)).set 6 (.slice R x.Nh.length fC)).set 7 (.int .i64 x.num)).set 8 (.int .i64 x.Nj);have kF:=((((((((((aa.refl (fun b=>b≠w.heap.size) W).setCell (p:=⟨w.heap.size,0,none⟩) (.inl fun h=>h rfl) (.int .u8 x.kind)).setCell (p:=⟨w.heap.size,1,none⟩) (.inl fun h=>h rfl) (.int .u8 x.op)).setCell (p:=⟨w.heap.size,2,none⟩) (.inl fun h=>h rfl) (.string x.dst)).setCell (p:=⟨w.heap.size,3,none⟩) (.inl fun h=>h rfl) (.string x.ref)).setCell (p:=⟨w.heap.size,4,none⟩) (.inl fun h=>h rfl) (.string x.Ni)).setCell (p:=⟨w.heap.size,5,none⟩) (.inl fun h=>h rfl) (.slice J x.args.length aC)).setCell (p:=⟨w.heap.size,6,none⟩) (.inl fun h=>h rfl) (.slice R x.Nh.length fC)).setCell (p:=⟨w.heap.size,7,none⟩) (.inl fun h=>h rfl) (.int .i64 x.num)).setCell (p:=⟨w.heap.size,8,none⟩) (.inl fun h=>h rfl) (.int .i64 x.Nj));simp only[ga] at bF;generalize World.setCell _ ⟨w.heap.size,8,none⟩ _=WF at*;have a7:pb≠w.heap.size:=fun e=>by have h1:=Y.par.box;subst e;exact absurd rfl (h1.ne o (by decide))
 have a8:=be ra kF fun g hg=>by have:=(aD ra hg).1;show g≠w.heap.size;omega
 have b0:=be rf kF fun g hg=>by have:=(aD rf hg).1;show g≠w.heap.size;omega
 have b1:=kF.size;have kw:aa (fun b=>b≠pb) w WF:=by have h1:aa (fun b=>b≠pb∧b<w.heap.size) w WF:=((a1.all.trans (Y.kept.mono fun b j=>⟨j.1,by have:=j.2;omega⟩)).trans (kF.mono fun b j=>by have:=j.2;show b≠w.heap.size;omega));exact⟨h1.os,h1.output,h1.size,fun i hi hS=>h1.block i hi ⟨hS,hi⟩⟩
 refine XL ht hd bF ⟨⟨kw,?_⟩,_,_,rfl,qcD a8 (by omega) fun b h1 h2=>⟨by omega,h2⟩,qcD b0 (by omega) fun b h1 h2=>⟨by omega,h2⟩⟩;exact⟨Y.par.box.kept kF a7,cu.wide (fun b j=>⟨j.1,by have:=kw.size;omega⟩) (cu.keep (kw.mono fun b j=>j.1) hP.toks),Y.par.le⟩
end
section
theorem XN (f:FuncId)(w:World):(binOp .neq 155 (.func (.func f) #[] #[]) .nilFunc).run prog w=.ok (.bool true) w:=by kernel_rfl
theorem XM (f:FuncId)(w:World):(binOp .eql 155 (.func (.func f) #[] #[]) .nilFunc).run prog w=.ok (.bool false) w:=by kernel_rfl
attribute [local go_sem] XN XM
theorem ZF {S:Nat→Prop}{w:World}{A:Option Addr}{n c:Nat}{s:ByteArray}{l:List ByteArray}(h:gB S w (.slice A (n+1) c) (s::l))(hl:l.length=n):∃b o,A=some ⟨b,o,none⟩∧n+1≤c∧c≤maxLen∧w.cell? ⟨b,o,none⟩=some (.string s)∧S b∧gB S w (.slice (some ⟨b,o+1,none⟩) n (c-1)) l:=by obtain⟨b,o,e,J,R⟩:=Bs h (i:=0) rfl;obtain⟨a,cap,Y,h1,h2,h3,h4⟩:=h;injection Y with e1 e2 e3;subst e1;subst e3;subst e;simp only[kI] at h1 h3;refine⟨b,o,rfl,by omega,h2,R,J,some ⟨b,o+1,none⟩,c-1,by rw[hl],by omega,by omega,by omega,fun i x hx=>?_⟩;obtain⟨b',o',c',e',j,C,I⟩:=h4 (i+1) x (by simpa using hx);cases e';exact⟨b,o+1,c',rfl,j,by rw[Nat.add_right_comm,Nat.add_assoc];exact C,I⟩
def WU (j s:ByteArray):Prop:=Ab s=true∧(s.size=0∨Ai s 0≠45)∧s.size≤65536∧(if j.toList==[100,101,112,116,104] then(ia s).isSome=true else aB s=true)
def XD (W:World)(t:Tmp)(v:Value)(wn:World):Prop:=if t=10 then∃b,v=.map (some b)∧Tn wn b Ys else∃g,v=.pointer (some ⟨g,0,none⟩)∧W.heap.size≤g∧al wn g 157 #[.nilFunc,.int .i64 0]
theorem XD.keep {W wn C:World}(I:aa All wn C)(t:Tmp){v:Value}(h:XD W t v wn):XD W t v C:=by
 unfold XD at h⊢;split
 ·rename_i e;rw[ap e] at h
  obtain⟨b,j,o⟩:=h;exact⟨b,j,o.kept I⟩
 rename_i e;rw[ae e] at h;obtain⟨g,j,o,J⟩:=h;exact⟨g,j,o,J.kept I trivial⟩
theorem ZG (w:World):(zeroValue 157).run prog w=.ok (.agg #[.nilFunc,.int .i64 0]) w:=by kernel_rfl
theorem YQ (K n:Nat)(eg:∀args w,(callFunc K args).run prog w=.ok (.enter K args) w)(rd:Nat)(w0:ByteArray)(ws:List ByteArray)(S:Nat→Prop)(A:Option Addr)(c:Nat)(w:World)(hv:gB S w (.slice A (n+1) c) (w0::ws))(b0:TH Ys w0=some (.agg #[.func (.func K) #[] #[],.int .i64 n]))(hlen:ws.length=n)(e6:1≤n)(hn:n<100)(h0:w0.size≤65536)(b1:∀s∈ws,WU w0 s)(R:World→Prop)
 (b2:∀wn A' c',aa All w wn→gB S wn (.slice A' n c') ws→Calls prog K #[.pointer (some ⟨rd,0,none⟩),.slice A' n c'] wn fun e w'=>e=.returned (.int .i64 0)∧R w'):
 Calls prog 35 #[.pointer (some ⟨rd,0,none⟩),.slice A (n+1) c] w fun e w'=>e=.returned (.int .i64 0)∧R w':=by
 obtain⟨b,o,rfl,h1,h2,J,c9,b3⟩:=ZF hv hlen;have HV:=oH (fun wn (j:aa All w wn)=>j.cell (p:=⟨b,o,none⟩) trivial J);have d7:=oH b3;have d8:=oH b2;have d9:=oH b1;have b4:=J2 b0 (show w0.size≤maxLen by unfold maxLen;omega);have e0:=oH eg;have h3:¬c=1:=by omega
 clear hv J b3 b2 b1 b0 c9 eg;go_enter func35,ntmps35;go_upto_region 1 with fail;refine R1 6 w [10,5] (XD w) (fun i=>if i=0 then some (fun v=>∃b,v=.map (some b)) else if i=5 then some (fun v=>∃g,v=.pointer (some ⟨g,0,none⟩)) else none) ?_;refine O6 (fun wn j hp=>?_) (fun wn j hp=>?_) ?_
 ·go_simp
  refine(Zb wn).mono ?_;rintro e wq ⟨b9,rfl,hm,Y⟩;exact .inl ⟨rfl,_,rfl,⟨_,rfl⟩,j.trans Y,fun t _ v h=>h.keep Y t,fun d hd _=>by cases hd;exact⟨b9,rfl,hm⟩⟩
 ·obtain⟨e,wq,_,⟨b9,rfl,hm,Y⟩,_⟩:=(Zb wn) []
  exact⟨_,wq,⟨_,rfl⟩,j.trans Y,fun t _ v h=>h.keep Y t,fun d hd _=>by cases hd;exact⟨b9,rfl,hm⟩⟩
 rintro v ⟨b9,rfl⟩;simp only[PS];iterate 2 refine O0 ?_
 refine O3 (fun wn j hp=>by(have q0:=HV.out wn j;go_simp;with_reducible rfl)) ?_;refine xy (v:=(.agg #[.func (.func K) #[] #[],.int .i64 n])) (by rfl) (by rfl) (by rfl) (by intro d hd;cases hd;decide) (fun wn j hp=>by(obtain⟨b8,e8,hm⟩:=hp 10 (by decide) (by decide) _ rfl;cases e8;have hl:=ZD w0 b4.2 hm;rw[b4.1] at hl;simp only[Option.getD_some] at hl;go_simp<;>with_reducible rfl)) ?_;simp only[PS];refine O6 (fun wn j hp=>?_) (fun wn j hp=>?_) ?_
 ·have hz:=ZG wn
  go_simp;exact⟨rfl,⟨_,rfl⟩,j.alloc _,fun t _ v h=>h.keep (kR.alloc _) t,fun d hd _=>by cases hd;exact⟨_,rfl,j.size,al.new _ _ _⟩⟩
 ·exact⟨.pointer (some ⟨wn.heap.size,0,none⟩),wn.alloc (.cells #[.nilFunc,.int .i64 0] 157),⟨_,rfl⟩,j.alloc _,fun t _ v h=>h.keep (kR.alloc _) t,fun d hd _=>by cases hd;exact⟨_,rfl,j.size,al.new _ _ _⟩⟩
 rintro v ⟨g,rfl⟩;simp only[PS];refine aG fun wt a6 hF=>?_;obtain⟨g9,e9,b5,I⟩:=hF 5 (by decide) _ rfl;cases e9;have HG:=J3 a6 b5 I;have c0:=I.cl 0;have c1:=I.cl 1;have f0:=I.free 0;have f1:=I.free 1;clear a6 hF b5 I;simp only[dK];go_upto_region 2 with fail;have a7:=(HG.2.2.set 0 (.func (.func K) #[] #[])).set 1 (.int .i64 n);simp only[ga] at a7;have k2:=(HG.1.setCell (p:=⟨g,0,none⟩) (.inr HG.2.1) (.func (.func K) #[] #[])).setCell (p:=⟨g,1,none⟩) (.inr HG.2.1) (.int .i64 n);clear c0 c1 f0 f1;generalize World.setCell _ ⟨g,1,none⟩ _=W2 at*;obtain⟨d0,d1⟩:=a7.c2;have H2:=J2 k2 a7;have b6:=oH (ax.keep k2.all d7.out);clear k2 a7;go_upto_region 4 with fail;clear d0 d1;go_upto_region 5 with fail;go_loopg [29] n (fun g e1 wr=>∃i:Nat,g=n-i∧i≤n∧e1=.int .i64 i∧aa All W2 wr);·exact⟨0,by omega,Nat.zero_le _,rfl,kR⟩
 obtain⟨i,h4,hi,rfl,j⟩:=hrel;obtain⟨wo,e2⟩:=eQ wr;subst e2;have HK:=oH j;clear j;by_cases c4:i<n;·(
 have hd:decide ((i:Int)<(n:Int))=true:=by simpa using c4
 obtain⟨s,hs⟩:∃s,ws[i]? =some s:=⟨_,lG (by omega)⟩;obtain⟨b7,o7,e7,_,e3⟩:=Bs (ax.keep HK.out.all b6.out) hs;cases e7;obtain⟨a1,a2,a3,a4⟩:=d9.out s (mG hs);have HA:=oH a4;clear a4 hs;go_wp2_with fail;refine(VU s wo a1 a2 a3).mono ?_;rintro e w3 ⟨c5,v,rfl,_⟩;have a8:=oH (HK.out.trans c5);have h5:=HV.out w3 (H2.1.trans a8.out);clear c5 e3 a1 a2 a3;cases c6:(w0.toList==[100,101,112,116,104])
 case true=>(
 have C:=HA.out;rw[c6,ap rfl] at C;rw[C];clear C;go_wp2;go_roundg (n-(i+1));·exact⟨i+1,rfl,by omega,by go_num,a8.out⟩
 omega)
 have C:=HA.out;rw[c6,ae (by decide)] at C;have HN:=oH C;clear C;go_wp2_with fail;refine(vK s w3).mono ?_;rintro e w4 ⟨rfl,c7⟩;rw[HN.out];have e4:=oH (a8.out.trans c7);clear c7;go_wp2;go_roundg (n-(i+1));·exact⟨i+1,rfl,by omega,by go_num,e4.out⟩
 omega)
 have hd:decide ((i:Int)<(n:Int))=false:=by simpa using c4
 go_upto_region 11 with fail;refine R0 5 wo (fun _=>none) ?_;iterate 4 refine O3 (fun wn j hp=>by(have q0:=(H2.2.kept (HK.out.trans j) trivial).cell 0;simp only[gc] at q0;go_simp;with_reducible rfl)) ?_
 refine O3 (fun wn j hp=>by(have q0:=(H2.2.kept (HK.out.trans j) trivial).cell 0;simp only[gc] at q0;go_simp;rw[ap (by omega)])) ?_;refine aG fun wt a6 hF=>?_;have HT:=oH a6;clear a6 hF;simp only[List.drop_succ_cons];have h6:=e0.out;have c8:=oH (d8.out wt (some ⟨b,o+1,none⟩) (c-1) (H2.1.trans (HK.out.trans HT.out)) (ax.keep (HK.out.trans HT.out).all b6.out));go_wp2_with fail;refine c8.out.mono ?_;rintro e w9 ⟨rfl,hr⟩;have e5:=oH hr;clear hr;go_wp2_with fail;go_ret;exact⟨rfl,e5.out⟩
end
section
def Zo (c:Nat):Bool:=c==32||c==9
def Zc:ByteArray:=bs [108,111,119]
instance (w0 s:ByteArray):Decidable (WU w0 s):=by unfold WU;infer_instance
section
variable {B rd:Nat} {wo w wn:World} {S:Nat→Prop}
theorem Yx.at_ {p:aH}{fl:List (Nat×Nat)}(h:Yx B rd wo p fl)(j:aa All wo w)(o:aa All w wn):Yx B rd wn p fl:=h.keep (j.trans o).all
end
end
section
def qbG:Value→List Value
 |.agg xs=>xs.toList
 |_=>[]
section
variable {α:Type} {n:Nat} {e:TypeId} {El:cO α} {B pb:Nat} {W w:World} {v:Value} {l:List α} {x:α}
def Tq (El:cO α)(W:World)(n:Nat)(x:α)(y:Value)(w:World):Prop:=∃cs:List Value,y=.agg cs.toArray∧cs.length=n∧(∀u∈cs,u.oneCell'=true)∧El (fun b=>W.heap.size≤b∧b<w.heap.size) w cs x
theorem Tq.cells {y:Value}(h:Tq El W n x y w):(qbG y).length=n∧∀u∈qbG y,u.oneCell'=true:=by obtain⟨cs,rfl,h1,j,_⟩:=h;exact⟨by simpa [qbG] using h1,by simpa [qbG] using j⟩
theorem Uf (g:cO.Good El){PS:Bool→World→Prop}{xs:List Value}(J:pb<W.heap.size)(r:W.ownsRow B e n v l.length xs)(o:v.ownBlock≠some pb)(C:∀b w w',aa (fun i=>v.ownBlock≠some i) w w'→PS b w→PS b w'):
 Vb W (fun i=>i≠pb) v PS (Tq El W n x) where
 big:=fun i hi e=>by omega
 own:=fun b j=>⟨fun e=>o (e▸j),(aD r j).2⟩
 ps:=C
 c:=fun y w w' I ⟨cs,h1,R,Y,h4⟩=>⟨cs,h1,R,Y,g.wide (fun b j=>⟨j.1,by have:=I.size;omega⟩) (g.keep (I.mono fun b j=>⟨fun e=>by have:=(aD r e).2;have:=j.1;omega,fun e=>by have:=j.1;omega⟩) h4)⟩
theorem Us (g:cO.Good El){wt Y:World}{u y:Value}{o:List (List Value)}{P:Nat→Prop}(a6:pb<B)(a7:B≤W.heap.size)(r:W.ownsRow B e n v l.length o.flatten)(h2:o.length=l.length)(h3:∀cs∈o,cs.length=n)
 (h4:∀b,P b→B≤b∧b<W.heap.size∧v.ownBlock≠some b) (h5:∀(i:Nat) x,l[i]? =some x→∃cs,o[i]? =some cs∧El P W cs x)
 (hk:aa (fun i=>v.ownBlock≠some i∧i≠pb) W wt) (q1:wt.ownsRow B e n u (l.length+1) (o.flatten++qbG y)) (q2:Tq El W n x y Y) (q3:W.heap.size≤Y.heap.size) (q4:aa (fun b=>v.ownBlock≠some b∧b≠pb) Y wt) (I:u.ownBlock=v.ownBlock∨∀g,u.ownBlock=some g→Y.heap.size≤g):
 dR n e El B wt u (l++[x]):=by
 obtain⟨cs,rfl,c1,c2,c3⟩:=q2;have hz:=q4.size;refine⟨o++[cs],fun b=>P b∨(W.heap.size≤b∧b<Y.heap.size),?_,by simp[h2],?_,fun b j=>?_,fun i z C=>?_⟩
 ·rw[List.flatten_append,iQ]
  simpa [qbG] using q1
 ·intro c R
  rcases eD.1 R with R|R;·exact h3 c R
  rw[cx.1 R];exact c1
 ·rcases j with j|j
  ·have h:=h4 b j;refine⟨h.1,by have:=hk.size;omega,?_⟩;rcases I with I|I;·rw[I];exact h.2.2
   intro J;have:=I b J;omega
  refine⟨by omega,by omega,?_⟩;rcases I with I|I;·rw[I];intro J;have:=(aD r J).2;omega
  intro J;have:=I b J;omega
 by_cases hi:i<l.length
 ·rw[ma hi] at C
  obtain⟨c,R,hE⟩:=h5 i z C;refine⟨c,by rw[ma (by omega)];exact R,g.wide (fun b j=>.inl j) (g.keep (hk.mono fun b j=>⟨(h4 b j).2.2,fun J=>by have:=(h4 b j).1;omega⟩) hE)⟩
 rw[kH (by omega)] at C;have a1:i-l.length=0:=by have:=(lS.1 C).1;simp at this;omega
 rw[a1] at C;cases C;refine⟨cs,by rw[kH (by omega),h2,a1];rfl,g.wide (fun b j=>.inr j) (g.keep (q4.mono fun b j=>⟨fun J=>by have:=(aD r J).2;have:=j.1;omega,fun J=>by have:=j.1;omega⟩) c3)⟩
end
end
theorem Hn {p:cr}(j:p.Ok)(k:Nat):(p.txt k).size≤140737488355328:=by have:=(TJ j k).2;omega
theorem Au:gR.size≤140737488355328:=by show 0≤140737488355328;omega
theorem We {p:cr}(j:p.Ok)(k:Nat):p.pos k≤65536:=by
 unfold cr.pos;have o:=j.size;cases C:p.l[k]? with
 |none=>exact o
 |some t=>have h:=j.tok t (mG C);show t.beg≤_;omega
theorem Vh {p:cr}(J:p.Ok):∀ {f n k:Nat} {fr I o C:List ByteArray} {k':Nat},(∀s∈fr,s.size≤140737488355328)→(∀s∈I,s.size≤140737488355328)→UH p f n k fr I=some (o,C,k')→(∀s∈o,s.size≤140737488355328)∧(∀s∈C,s.size≤140737488355328)∧k<k'
 |0,_,_,_,_,_,_,_,_,_,h=>by cases h
 |f+1,n,k,fr,I,o,C,k',h1,h2,h=>by(
 obtain⟨_,_,_,_,R⟩:=Uv h;have Y:∀s∈fr++[p.txt k],s.size≤140737488355328:=fun s j=>by
  rcases eD.1 j with j|j;·exact h1 s j
  rw[cx.1 j];exact Hn J k
 have e2:∀s∈I++[p.txt (k+1+1)],s.size≤140737488355328:=fun s j=>by
  rcases eD.1 j with j|j;·exact h2 s j
  rw[cx.1 j];exact Hn J _
 split at R
 ·have h6:=Vh J Y e2 R
  exact⟨h6.1,h6.2.1,by omega⟩
 injection R with f1 f2;injection f2 with f2 f3;subst f1;subst f2;subst f3;exact⟨Y,e2,by omega⟩)
theorem Xi:(prog.info? 188).map (fun i=>(i.zero,i.size,i.bytes))=some (some (.agg #[.int .u8 0,.int .u8 0,.string ⟨#[]⟩,.string ⟨#[]⟩,.string ⟨#[]⟩,.slice none 0 0,.slice none 0 0,.int .i64 0,.int .i64 0]),9,120):=by kernel_rfl
theorem gz.moved {w w':World}{pb:Nat}{p:cr}{A:Option Addr}{C k m:Nat}(h:gz w)(o:Uo w pb p A C k m)(j:aa (fun i=>i≠pb∧i<w.heap.size) w w'):gz w':=by
 obtain⟨I,J⟩:=o.box.c2;refine⟨fun i hi=>j.cell (p:=⟨4,i,none⟩) ⟨fun e=>?_,jy _ _ (h.1 i hi)⟩ (h.1 i hi),fun i hi=>j.cell (p:=⟨3,i,none⟩) ⟨fun e=>?_,jy _ _ (h.2 i hi)⟩ (h.2 i hi)⟩
 ·have:=h.1 0 (by decide)
  rw[show 4=pb from e,I] at this;cases this
 have:=h.2 1 (by decide);rw[show 3=pb from e,J] at this;cases this
theorem Xj {pb:Nat}{p:cr}{A:Option Addr}{C k' o:Nat}{x:cX}{W w w':World}{e:Ending}(h:Vn pb p A C k' o x w e w')(hw:uB x)(R:W.heap.size≤w.heap.size):
 ∃u,e=.returned u∧(∃a f,u=.agg (wg x a f))∧aa (fun i=>i≠pb) w w'∧Uo w' pb p A C k' o∧Tq zH W 9 x u w':=by
 obtain⟨hm,a,f,rfl,I,J⟩:=h;refine⟨_,rfl,⟨a,f,rfl⟩,hm.1,hm.2,_,rfl,rfl,?_,a,f,rfl,ax.wide (fun b j=>⟨by omega,j.2⟩) I,ax.wide (fun b j=>⟨by omega,j.2⟩) J,hw⟩;obtain⟨Y,a2,rfl,_⟩:=I;obtain⟨f1,f2,rfl,_⟩:=J;intro u hu;simp at hu;rcases hu with rfl|rfl|rfl|rfl|rfl|rfl|rfl|rfl|rfl<;>rfl
def Wo (pb:Nat)(p:cr)(A:Option Addr)(C k':Nat)(b:eS)(w:World)(e:Ending)(w':World):Prop:=
 ∃y j,e=.returned y∧j≤k'∧aa (fun i=>i≠pb) w w'∧Uo w' pb p A C k' j∧Tq qh w 3 b y w'
structure XC (w:World)(rb cb pb:Nat)(p:cr)(A:Option Addr)(C k0 k m:Nat)(l:List cX)(W:World):Prop where
 kept:aa (Wm pb w.heap.size) w W
 par:PB W w.heap.size pb p A C k m
 res:al W rb 135 #[.string ⟨#[]⟩,.slice none 0 0,.int .i64 0]
 box:∃A1 C1,al W cb 135 #[.string (p.txt k0),.slice A1 l.length C1,.int .i64 (p.pos k0)]∧dR 9 188 zH (cb+1) W (.slice A1 l.length C1) l
 low:w.heap.size≤rb∧rb<cb∧cb<W.heap.size
 few:m≤k∧l.length≤m
theorem XC.moved {w W R:World}{o I pb:Nat}{p:cr}{A:Option Addr}{C Y k k' m j:Nat}{l:List cX}(h:XC w o I pb p A C Y k m l W)(hm:wi pb p A C k' j W R)(hf:j≤k'∧l.length≤j):XC w o I pb p A C Y k' j l R:=by have hl:=h.par.low;obtain⟨A1,C1,J,hr⟩:=h.box;have:=h.low;exact⟨h.kept.trans (hm.1.mono fun b J=>J.1),h.par.moved hm,h.res.kept hm.1 (by show o≠pb;omega),⟨A1,C1,J.kept hm.1 (by show I≠pb;omega),hr.keep nM hm.1 fun b h1 h2=>by show b≠pb;omega⟩,⟨this.1,this.2.1,by have:=hm.1.size;omega⟩,hf⟩
theorem XC.all {w W j:World}{o I pb:Nat}{p:cr}{A:Option Addr}{C J k m:Nat}{l:List cX}(h:XC w o I pb p A C J k m l W)(R:aa All W j):XC w o I pb p A C J k m l j:=
 h.moved ⟨R.all,h.par.pat.keep R⟩ h.few
theorem Wy (pb o cb:Nat)(p:cr)(hp:p.Ok)(A:Option Addr)(C j k m k1 m1:Nat)(code:List cX)(w W:World)(J:Option Addr)(R:Nat)(a:Act)(ht:a.tmps[2]? =some (.pointer (some ⟨o,0,none⟩)))(hd:a.defers=[])(_:Uo w pb p A C k1 m1)(h4:p.l.length≤4096)
 (I:XC w o cb pb p A C j k m code W) (hr:dR 9 188 zH (cb+1) W (.slice J code.length R) code):
 bodyPost prog Tryz.f85 (Wo pb p A C k ⟨p.txt j,code,p.pos j⟩ w) .ret a (((W.setCell ⟨o,0,none⟩ (.string (p.txt j))).setCell ⟨o,1,none⟩ (.slice J code.length R)).setCell ⟨o,2,none⟩ (.int .i64 (p.pos j))):=by
 have bF:=((I.res.set 0 (.string (p.txt j))).set 1 (.slice J code.length R)).set 2 (.int .i64 (p.pos j));have kF:=(((aa.refl (fun b=>b≠o) W).setCell (p:=⟨o,0,none⟩) (.inl fun h=>h rfl) (.string (p.txt j))).setCell (p:=⟨o,1,none⟩) (.inl fun h=>h rfl) (.slice J code.length R)).setCell (p:=⟨o,2,none⟩) (.inl fun h=>h rfl) (.int .i64 (p.pos j));simp only[ga] at bF;generalize World.setCell _ ⟨o,2,none⟩ _=WF at*;have a1:=I.low;have Y:=I.few;have hle:=I.par.le;have a6:=I.par.low;have r2:=(hr.keep nM kF (fun b h1 h2=>by show b≠o;omega)).read (bw:=120) nM (by omega);have a7:=kF.size;have kw:aa (fun b=>b≠pb) w WF:=by have h1:aa (fun b=>b≠pb∧b<w.heap.size) w WF:=I.kept.trans (kF.mono fun b hb=>by have:=hb.2;show b≠o;omega);exact⟨h1.os,h1.output,h1.size,fun i hi hS=>h1.block i hi ⟨hS,hi⟩⟩
 obtain⟨c0,c1,c2⟩:=bF.c3;refine bodyPost_ret (v:=.agg #[.string (p.txt j),.slice J code.length R,.int .i64 (p.pos j)]) (by simp[results,Tryz.results85,go_sem,ht,c0,c1,c2]) hd ⟨_,m,rfl,Y.1,kw,(I.par.kept kF fun b hb=>by show b≠o;omega).pat,[_,_,_],rfl,rfl,?_,_,rfl,?_,?_,?_⟩
 ·intro u hu
  simp at hu;rcases hu with rfl|rfl|rfl<;>rfl
 ·exact it.wide (fun b hb=>⟨by omega,hb.2⟩) r2
 ·have:=We hp j
  show aV ((p.pos j:Nat):Int);unfold aV;omega
 exact Hn hp j
section
theorem Xg:(prog.info? 135).map (fun i=>(i.zero,i.size,i.bytes))=some (some (.agg #[.string ⟨#[]⟩,.slice none 0 0,.int .i64 0]),3,48):=by kernel_rfl
theorem Tq.early {α:Type}{n:Nat}{El:cO α}{W j w:World}{x:α}{y:Value}(g:cO.Good El)(h:Tq El j n x y w)(R:W.heap.size≤j.heap.size):Tq El W n x y w:=by obtain⟨cs,h1,o,C,I⟩:=h;exact⟨cs,h1,o,C,g.wide (fun b J=>⟨by omega,J.2⟩) I⟩
section
variable {w W W':World} {rb cb pb:Nat} {p:cr} {A:Option Addr} {C k0 k k' m':Nat} {s:ByteArray} {l:List eS}
end
def Wq (pb:Nat)(p:cr)(A:Option Addr)(C k':Nat)(x:cD)(w:World)(e:Ending)(w':World):Prop:=
 ∃y m',e=.returned y∧m'≤k'∧aa (fun i=>i≠pb) w w'∧Uo w' pb p A C k' m'∧Tq uA w 4 x y w'
end
end Go.Proofs.YtgdlhckhpolnnaaGreatDoor
