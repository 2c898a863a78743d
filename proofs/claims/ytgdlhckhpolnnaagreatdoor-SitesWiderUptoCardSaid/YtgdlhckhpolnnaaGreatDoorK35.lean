/- SitesWider: for every input of no more than 1048576 values and letters, called in whatever memory in which the listed variables read as listed, the law's function returns true and leaves its arguments as they were; the card ties the variables to the program's text. No other condition. -/
import Derived.Test.YtgdlhckhpolnnaaGreatDoorCards
import Derived.Test.YtgdlhckhpolnnaaGreatDoorTie
import Derived.Deep.Matrix
import Derived.Deep.DeepHandedRow
import Derived.Test.YtgdlhckhpolnnaaGreatDoorK34
namespace Go.Proofs.YtgdlhckhpolnnaaGreatDoor
set_option maxRecDepth 100000
set_option maxHeartbeats 8000000
open Go.RowKit Go.Proofs.Tryz
section
open Go.ChangeShapes Go.WideShapes Go.ChangeAt Go.RowKit
theorem MR:ownKnob prog.godebug=none:=by kernel_rfl
theorem FZ:laidOutB prog=true:=by kernel_rfl
theorem MV:prog.globalNamed "interdict/arith.names" =some 3:=by kernel_rfl
theorem Jd:(prog.globals[3]?).map (·.type)=some 297:=by kernel_rfl
theorem MY:prog.cellsOf 297=13:=by kernel_rfl
theorem MU:prog.globalNamed "math/bits.deBruijn64tab" =some 4:=by kernel_rfl
theorem Jc:(prog.globals[4]?).map (·.type)=some 311:=by kernel_rfl
theorem MX:prog.cellsOf 311=64:=by kernel_rfl
theorem aa.keptBut {w w':World}(h:aa All w w')(may:MemPlace→Prop):w.keptBut w' may:=by refine⟨h.os,h.output,fun i hi=>?_⟩;rw[h.block i hi trivial];split<;>simp_all
theorem aa.same {w w':World}(h:aa All w w'){p:MemPlace}(j:p.block<w.heap.size):w.sameAt w' p:=by
 cases p with
 |cell b o=>exact World.cell?_of_block (w:=w) (h.block b j trivial)
 |map b=>exact h.block b j trivial
theorem aa.trod {H:Type}{enc:TypeId×Value→H}{t:TypeId}(hr:prog.readableRec t=true)(j:t<prog.types.size){W I:World}{v:Value}{d:DataW H}{ps:List MemPlace}
 (h:DataW.Trod enc prog W 0 (fun _=>true) true t v d ps) (J:aa All W I) (o:∀x∈ps,x.block<W.heap.size):
 DataW.Trod enc prog I 0 (fun b=>decide (b<W.heap.size)) true t v d ps:=
 WideElems.Trod_stays FZ hr j h (fun x C=>J.same (o x C)) (fun x C=>by simpa using o x C)
theorem ug {H:Type}{enc:TypeId×Value→H}{P:Program}{w:World}{base:Nat}{Y:Nat→Bool}{held:Bool}{fuel:Nat}{t e:TypeId}{n:Nat}{cs:List Value}{ss:List (List UInt8)}{p:List MemPlace}
 (ht:P.underlying t=some (.array n e)) (he:P.underlying e=some .string) (o:P.cellsOf e=1) (C:P.cellsOf t=n)
 (h:DataW.trod enc P w base Y held fuel t cs=some (.agg (ss.map fun s=>.lit (.string s)),p)):cs=ss.map fun s=>Value.string ⟨s.toArray⟩:=by
 cases fuel with
 |zero=>simp[DataW.trod] at h
 |succ fuel=>
  simp only[DataW.trod,ht,o,C,Nat.mul_one] at h;split at h;·(
 rename_i hl;obtain⟨xs,hm,hx⟩:=oE.1 h;have j:xs.map (·.1)=ss.map fun s=>(DataW.lit (.string s):DataW H):=by have:=congrArg Prod.fst hx;simpa using this
 have a1:xs.length=n:=by simpa using Lib.mapM_length hm
 have a6:ss.length=n:=by have:=congrArg List.length j;simp at this;omega
 apply List.ext_getElem?;intro i;by_cases hi:i<n
 ·obtain⟨b,hb,hf⟩:=Lib.mapM_at hm i i (by simp[hi]);obtain⟨z,hc,rfl,_⟩:=DataW.trod_string he hf;have h1:cs[i]? =some (.string z):=by have:=congrArg (·[0]?) hc;simpa [List.getElem?_take,List.getElem?_drop] using this
  have I:(xs.map (·.1))[i]? =some (DataW.lit (.string z.data.toList):DataW H):=by simp[hb]
  rw[j] at I;simp only[cL,oE,DataW.lit.injEq,Lit.string.injEq] at I;obtain⟨z',J,R⟩:=I;simp[h1,J,R]
 rw[jz (by omega),jz (by simp;omega)])
  cases h
def Ch:List (List UInt8):=(List.range 13).map fun i=>(nt i).data.toList
def Fo:List Int:=(List.range 64).map fun i=>(Fp i:Int)
theorem Jt {W:World}(h:laidMetH prog Rows.sitesWiderUptoRow.laid W):gz W:=by
 obtain⟨ps,⟨g1,t1,a6,f1,p1,q1,j,o,C,I,⟨g2,t2,a7,f2,p2,q2,J,R,Y,a1,_,_⟩,_⟩,_⟩:=h;obtain rfl:=kJ (MV.symm.trans j);obtain rfl:=kJ (Jd.symm.trans o);obtain rfl:=kJ (MU.symm.trans J);obtain rfl:=kJ (Jc.symm.trans R);have e1:=ug (ss:=Ch) underlying297 underlying9 Fi MY I;have e2:=Lib.cells_of_tab (zs:=Fo) underlying311 underlying5 KS MX a1;refine⟨fun i hi=>?_,fun i hi=>?_⟩
 ·rw[World.var?_cell MU Y i,←Array.getElem?_toList,e2]
  simp[Fo,hi]
 rw[World.var?_cell MV C i,←Array.getElem?_toList,e1];simp[Ch,hi]
theorem ZO {W:World}(h:W.ShapedOpen prog):Ws W:=
 Go.Proofs.cell_of_shapedOpen_int (zero:=#[.int .i64 0]) (t:=3) h (of_decide_eq_true (by kernel_rfl)) (by kernel_rfl) rfl (by kernel_rfl) (by kernel_rfl) underlying3
namespace sitesWider
theorem contract (H:Type)(enc:TypeId×Value→H)(W:World)(base:Nat)(args:Array Value)(J gs:List (DataW H))(before:List MemPlace)
 (o:∀(j:Nat) t v,Tryz.f5.params[j]? =some t→args[j]? =some v→Value.okWide prog W .any base t v)
 (hW:DataW.Whole enc prog Tryz.f5.params.toList Rows.sitesWiderSpec.vars false W args.toList J gs before) (hk:Rows.uptoSmall H (J++gs)=true) (hL:laidMetH prog Rows.sitesWiderUptoRow.laid W) (hM:W.ShapedOpen prog):
 Calls prog 5 args W fun e W'=>∃v,e=.returned v∧Rows.sitesWiderSpec.post enc prog Tryz.f5 false true false false W args v W':=by
 have R:=hW;obtain⟨p,q,I,hV,rfl,b7,b8⟩:=hW;have hA:DataW.TrodAll enc prog W 0 (fun _=>true) true Tryz.f5.params.toList args.toList J p:=I;rw[Tryz.params5] at hA o;obtain⟨v0,b9,d0,c0,p0,q0,Y,rfl,rfl,h0,r0⟩:=trodAll_cons hA;obtain⟨v1,c1,d1,c4,p1,q1,rfl,rfl,rfl,h1,r1⟩:=trodAll_cons r0;obtain⟨v2,c5,d2,c6,p2,q2,rfl,rfl,rfl,h2,r2⟩:=trodAll_cons r1;obtain⟨rfl,rfl,rfl⟩:=trodAll_nil r2;obtain rfl:args= #[v0,v1,v2]:=by cases args;simp_all
 obtain⟨rfl,rfl⟩:=trodVars_none hV;obtain⟨x0,rfl,_⟩:=okWide_struct underlying26 (o 0 26 v0 rfl rfl);obtain⟨x1,rfl,_⟩:=okWide_struct underlying30 (o 1 30 v1 rfl rfl);have hb:=of_decide_eq_true hk;simp only[Rows.uptoBulkAll,List.cons_append,mF] at hb;have k0:=h0;have k1:=h1;have k2:=h2;have a1:∀x∈p0,x.block<W.heap.size:=by obtain⟨m,hm⟩:=k0;exact DataW.trod_lt m _ _ _ hm
 have a6:∀x∈p1,x.block<W.heap.size:=by obtain⟨m,hm⟩:=k1;exact DataW.trod_lt m _ _ _ hm
 have a7:∀x∈p2,x.block<W.heap.size:=by obtain⟨m,hm⟩:=k2;exact DataW.trod_lt m _ _ _ hm
 obtain⟨m0,a8⟩:=h0;obtain⟨m2,b0⟩:=h2;obtain⟨m,rfl⟩:=okWide_int underlying5 (o 2 5 v2 rfl rfl);obtain⟨n2,e2,_,b1⟩:=DataW.trod_int underlying5 b0;obtain rfl:m=n2:=by simpa [Value.cells] using e2
 have b2:=bounds_u8 b1;obtain⟨n2,rfl⟩:=Int.eq_ofNat_of_zero_le b2.1;obtain⟨m1,b3⟩:=h1;obtain⟨p,hp,b4⟩:=Gu (xs:=x0) a8 (by omega);obtain⟨c,hc,b5,b6⟩:=DA (xs:=x1) b3 (by omega);clear I;refine(qfT (jm W) _ _ p c n2 W (by omega) hp hc (Jt hL) (ZO hM) (fun b hb=>hb) b4 b5 b6).mono fun e W' ⟨he,C⟩=>?_;subst he;exact⟨_,rfl,_,_,_,[],_,[],R,trodAll_mk1 (shut_bool underlying4 _),(trodAll_cons_mk (aa.trod (by kernel_rfl) (of_decide_eq_true (by kernel_rfl)) k0 C a1) (trodAll_cons_mk (aa.trod (by kernel_rfl) (of_decide_eq_true (by kernel_rfl)) k1 C a6) (trodAll_cons_mk (aa.trod (by kernel_rfl) (of_decide_eq_true (by kernel_rfl)) k2 C a7) trodAll_mk0))),rfl,C.keptBut _,fun h=>by cases h⟩
def lay (cs:Array Value):Obj→Obj
 |.cells _ t frozen=>.cells cs t frozen
 |o=>o
noncomputable def laidWorld (os:Os):World:=
 {World.holding prog os ⟨#[],#[],[]⟩ with heap:=((((World.holding prog os ⟨#[],#[],[]⟩).heap.modify 4 (lay #[.int .u8 0,.int .u8 1,.int .u8 56,.int .u8 2,.int .u8 57,.int .u8 49,.int .u8 28,.int .u8 3,.int .u8 61,.int .u8 58,.int .u8 42,.int .u8 50,.int .u8 38,.int .u8 29,.int .u8 17,.int .u8 4,.int .u8 62,.int .u8 47,.int .u8 59,.int .u8 36,.int .u8 45,.int .u8 43,.int .u8 51,.int .u8 22,.int .u8 53,.int .u8 39,.int .u8 33,.int .u8 30,.int .u8 24,.int .u8 18,.int .u8 12,.int .u8 5,.int .u8 63,.int .u8 55,.int .u8 48,.int .u8 27,.int .u8 60,.int .u8 41,.int .u8 37,.int .u8 16,.int .u8 46,.int .u8 35,.int .u8 44,.int .u8 21,.int .u8 52,.int .u8 32,.int .u8 23,.int .u8 11,.int .u8 54,.int .u8 26,.int .u8 40,.int .u8 15,.int .u8 34,.int .u8 20,.int .u8 31,.int .u8 10,.int .u8 25,.int .u8 14,.int .u8 19,.int .u8 9,.int .u8 13,.int .u8 8,.int .u8 7,.int .u8 6])).modify 3 (lay #[.string (nt 0),.string (nt 1),.string (nt 2),.string (nt 3),.string (nt 4),.string (nt 5),.string (nt 6),.string (nt 7),.string (nt 8),.string (nt 9),.string (nt 10),.string (nt 11),.string (nt 12)])).modify 2 (lay #[.int .u8 128,.int .u8 191,.int .u8 160,.int .u8 191,.int .u8 128,.int .u8 159,.int .u8 144,.int .u8 191,.int .u8 128,.int .u8 143,.int .u8 0,.int .u8 0,.int .u8 0,.int .u8 0,.int .u8 0,.int .u8 0,.int .u8 0,.int .u8 0,.int .u8 0,.int .u8 0,.int .u8 0,.int .u8 0,.int .u8 0,.int .u8 0,.int .u8 0,.int .u8 0,.int .u8 0,.int .u8 0,.int .u8 0,.int .u8 0,.int .u8 0,.int .u8 0])).modify 1 (lay (Go.Pinned.utf8FirstZ.map fun n:Nat=>Value.int .u8 n).toArray)}
theorem Ga (os:Os):laidMet prog Rows.sitesWiderUptoRow.laid ((laidWorld os).forCall (fun _ _=>0) ⟨#[],#[.agg #[.slice none 0 0,.slice none 0 0,.slice none 0 0,.slice none 0 0,.int .i64 0],.agg #[.slice none 0 0,.slice none 0 0,.int .i64 0],.int .u8 0],[]⟩).memory:=
 laidMet_of_run' 8 (by kernel_rfl) (by kernel_rfl)
theorem reads (os:Os){H:Type}(enc:TypeId×Value→H):∃places,DataW.whole enc prog ((laidWorld os).forCall (fun _ _=>0) ⟨#[],#[.agg #[.slice none 0 0,.slice none 0 0,.slice none 0 0,.slice none 0 0,.int .i64 0],.agg #[.slice none 0 0,.slice none 0 0,.int .i64 0],.int .u8 0],[]⟩).memory Tryz.f5.params.toList Rows.sitesWiderSpec.vars false (#[.agg #[.slice none 0 0,.slice none 0 0,.slice none 0 0,.slice none 0 0,.int .i64 0],.agg #[.slice none 0 0,.slice none 0 0,.int .i64 0],.int .u8 0]:Array Value).toList 8=some ([.agg [.nil,.nil,.nil,.nil,.lit (.int .i64 0)],.agg [.nil,.nil,.lit (.int .i64 0)],.lit (.int .u8 0)],[],places):=
 ⟨[],by kernel_rfl⟩
theorem lifted (os:Os)(started:os.Started)(H:Type)(enc:TypeId×Value→H)(F:Stop.Interp):
 ReturnsInHanded {} Tryz.checked os 5 .any ((Rows.OpenSpec.upto Rows.sitesWiderSpec).preRow enc prog Tryz.f5 Rows.sitesWiderUptoRow.domain false Rows.sitesWiderUptoRow.laid) (((Rows.OpenSpec.upto Rows.sitesWiderSpec).at F).post enc prog Tryz.f5 false true false false):=by
 obtain⟨places,I⟩:=reads os enc
 refine returnsInHanded_of_row (C:=Tryz.checked) (s:=Rows.OpenSpec.upto Rows.sitesWiderSpec) MR started (by kernel_rfl) func5
  (witness_row_at (enc:=enc) (C:=Tryz.checked) false (laidWorld os) #[.agg #[.slice none 0 0,.slice none 0 0,.slice none 0 0,.slice none 0 0,.int .i64 0],.agg #[.slice none 0 0,.slice none 0 0,.int .i64 0],.int .u8 0] rfl (by kernel_rfl) (by kernel_rfl) (by kernel_rfl)
   (OpenSpec.preRow_of_cond 8 I (by kernel_rfl) (fun k J=>by cases J;kernel_rfl) (by kernel_rfl) (Ga os))) ?_
 intro W base args R gs before o Y _ j _ hL hM _;exact contract H enc W base args R gs before o Y (j _ rfl) hL hM
theorem said:Rows.SitesWiderUptoSaid:=
 OpenClaim.holds_of_cond 5 Tryz.f5 rfl rfl rfl rfl rfl rfl rfl ⟨rfl,rfl,rfl,rfl,rfl⟩ rfl rfl rfl rfl rfl (by kernel_rfl) func5 (by kernel_rfl)
  (of_decide_eq_true (by kernel_rfl)) (by unfold Func.isWrapper;first|(rw[ap (by decide+kernel)];kernel_rfl)|(rw[ae (by decide+kernel)];exact⟨rfl,rfl⟩))
  (fun os started H enc _ F=>by rw[OpenClaim.pre_eq_preRow];exact lifted os started H enc F)
theorem plain (f:FuncId)(fn:Func)(R:Tryz.pinned.checked.prog.funcNamed "interdict/interdictlaw14.SitesWider" =some f)(o:Tryz.pinned.checked.prog.funcs[f]? =some fn):
 true=Tryz.pinned.checked.prog.looks []∧∀(j:Nat) t,fn.params[j]? =some t→Tryz.pinned.checked.prog.wantsStandIn t=false:=by
 obtain rfl:f=5:=kJ ((show prog.funcNamed "interdict/interdictlaw14.SitesWider" =some 5 by kernel_rfl).symm.trans R)|>.symm;obtain rfl:fn=Tryz.f5:=(kJ (func5.symm.trans o)).symm;refine⟨by kernel_rfl,fun j t J=>?_⟩;rw[Tryz.params5] at J;have C:=Array.mem_of_getElem? J;have I:t=26∨t=30∨t=5:=by simpa using C
 rcases I with rfl|rfl|rfl;·exact(show prog.wantsStandIn 26=false by kernel_rfl)
 ·exact(show prog.wantsStandIn 30=false by kernel_rfl)
 exact(show prog.wantsStandIn 5=false by kernel_rfl)
theorem card:Rows.SitesWiderUptoCardSaid:=
 Claim7.holds_tied_plain_at .later [] _ _ _ _ said (fun _ h=>by cases h) (by kernel_rfl) (fun _ h=>by cases h) sitesWiderUpto_row_tie rfl ⟨rfl,rfl⟩ (by kernel_rfl) rfl plain (by kernel_rfl)
#print axioms card
end sitesWider
end
end Go.Proofs.YtgdlhckhpolnnaaGreatDoor
