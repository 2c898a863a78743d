/- Part 38 of the proof of CallsShallow (its last part says what is proved). No condition. -/
import Derived.Test.YtncdbjponknakaaGreatDoorK36
namespace Go.Proofs.YtncdbjponknakaaGreatDoor
set_option maxRecDepth 100000
set_option maxHeartbeats 8000000
open Go.RowKit Go.Proofs.Tryz
section
namespace Go.Proofs.YtncdbjponknakaaGreatDoor.Ari
def I (x:BitVec 64):Value:=.int .i64 x.toInt
def U (x:BitVec 64):Value:=.int .u64 x.toNat
theorem dk (n:Int):IntKind.i64.wrap n=n.bmod 18446744073709551616:=by simp[IntKind.wrap,IntKind.bits,IntKind.signed,Int.bmod];split<;>split<;>omega
section
variable {P:Program} {w:World} (t s:TypeId) (x y:BitVec 64)
theorem Sa:(binOp .add t (I x) (I y)).run P w=.ok (I (x+y)) w:=by simp[binOp,I,Op.intArith,dk,BitVec.toInt_add]
theorem Sj:(binOp .sub t (I x) (I y)).run P w=.ok (I (x-y)) w:=by simp[binOp,I,Op.intArith,dk]
theorem Sd:(binOp .mul t (I x) (I y)).run P w=.ok (I (x*y)) w:=by simp[binOp,I,Op.intArith,dk]
theorem Sf (h:y≠0#64):(binOp .quo t (I x) (I y)).run P w=.ok (I (x.sdiv y)) w:=by have:y.toInt≠0:=fun e=>h (BitVec.eq_of_toInt_eq (by simpa using e));simp[binOp,I,Op.intDiv,dk,this,BitVec.toInt_sdiv]
theorem Sg (h:y≠0#64):(binOp .rem t (I x) (I y)).run P w=.ok (I (x.srem y)) w:=by have:y.toInt≠0:=fun e=>h (BitVec.eq_of_toInt_eq (by simpa using e));simp[binOp,I,Op.intDiv,this,BitVec.toInt_srem]
theorem RF:(binOp .and t (I x) (I y)).run P w=.ok (I (x&&&y)) w:=by show Result.ok (Value.int .i64 (IntKind.i64.wrap ((BitVec.ofInt 64 x.toInt&&&BitVec.ofInt 64 y.toInt).toNat:Int))) w=_;rw[BitVec.ofInt_toInt,BitVec.ofInt_toInt,dk,I,BitVec.toInt_eq_toNat_bmod (x&&&y)]
theorem SC:(binOp .or t (I x) (I y)).run P w=.ok (I (x|||y)) w:=by show Result.ok (Value.int .i64 (IntKind.i64.wrap ((BitVec.ofInt 64 x.toInt|||BitVec.ofInt 64 y.toInt).toNat:Int))) w=_;rw[BitVec.ofInt_toInt,BitVec.ofInt_toInt,dk,I,BitVec.toInt_eq_toNat_bmod (x|||y)]
theorem Sk:(binOp .xor t (I x) (I y)).run P w=.ok (I (x^^^y)) w:=by show Result.ok (Value.int .i64 (IntKind.i64.wrap ((BitVec.ofInt 64 x.toInt^^^BitVec.ofInt 64 y.toInt).toNat:Int))) w=_;rw[BitVec.ofInt_toInt,BitVec.ofInt_toInt,dk,I,BitVec.toInt_eq_toNat_bmod (x^^^y)]
theorem Oy:(x.toInt==y.toInt)=(x==y):=by rw[Bool.eq_iff_iff,cy,cy,BitVec.toInt_inj]
theorem RG:(binOp .eql t (I x) (I y)).run P w=.ok (.bool (x==y)) w:=by simp[binOp,I,Op.intCmp,Oy]
theorem Se:(binOp .neq t (I x) (I y)).run P w=.ok (.bool (x !=y)) w:=by simp[binOp,I,Op.intCmp,bne,Oy]
theorem Sc:(binOp .lss t (I x) (I y)).run P w=.ok (.bool (x.slt y)) w:=by simp[binOp,I,Op.intCmp,BitVec.slt]
theorem Sb:(binOp .gtr t (I x) (I y)).run P w=.ok (.bool (y.slt x)) w:=by simp[binOp,I,Op.intCmp,BitVec.slt]
theorem QW:(binOp .and t (I x) (.int .i64 63)).run P w=.ok (I (x&&&63#64)) w:=RF t x 63
theorem RE (y:BitVec 64):(y&&&63#64).toInt=(y&&&63#64).toNat∧(y&&&63#64).toNat<64:=by
 have h:(y&&&63#64).toNat<64:=by rw[BitVec.toNat_and];exact Nat.lt_of_le_of_lt Nat.and_le_right (by decide)
 refine⟨?_,h⟩;rw[BitVec.toInt_eq_toNat_cond,ap (by omega)]
theorem Sh:(binOp .shl t (I x) (I (y&&&63#64))).run P w=.ok (I (x<<<(y&&&63#64).toNat)) w:=by
 obtain⟨j,C⟩:=RE y;have l:¬((y&&&63#64).toNat:Int)<0:=by omega
 have o:min (y&&&63#64).toNat 64=(y&&&63#64).toNat:=by omega
 simp only[binOp,I,Op.shift,j,l,if_false,dP,IntKind.bits,o,dk,BitVec.toInt_shiftLeft];rw[BitVec.toInt_eq_toNat_bmod];simp[Nat.shiftLeft_eq]
theorem Si:(binOp .shr t (I x) (I (y&&&63#64))).run P w=.ok (I (x.sshiftRight (y&&&63#64).toNat)) w:=by
 obtain⟨j,C⟩:=RE y;have l:¬((y&&&63#64).toNat:Int)<0:=by omega
 have o:min (y&&&63#64).toNat 64=(y&&&63#64).toNat:=by omega
 simp only[binOp,I,Op.shift,j,l,if_false,dP,IntKind.bits,o,BitVec.toInt_sshiftRight,Int.shiftRight_eq_div_pow];rw[Int.fdiv_eq_ediv_of_nonneg _ (by exact_mod_cast Nat.zero_le _)];simp
theorem Tl (op:BinOp)(p q:Operand):(eqGuard op t p q (I x) (I y)).run P w=.ok () w:=by cases op<;>simp[eqGuard,I]
theorem SH (op:BinOp)(p q:Operand)(n:Int):(eqGuard op t p q (I x) (.int .i64 n)).run P w=.ok () w:=by cases op<;>simp[eqGuard,I]
theorem wL (op:BinOp)(p q:Operand):(eqGuard op t p q (U x) (U y)).run P w=.ok () w:=by cases op<;>simp[eqGuard,U]
theorem pD (op:BinOp)(p q:Operand)(n:Int):(eqGuard op t p q (U x) (.int .u64 n)).run P w=.ok () w:=by cases op<;>simp[eqGuard,U]
theorem SI (op:BinOp)(p q:Operand)(f:FuncId):(eqGuard op t p q (.func (.func f) #[] #[]) .nilFunc).run P w=.ok () w:=by cases op<;>simp[eqGuard]
theorem SJ (op:BinOp)(p q:Operand):(eqGuard op t p q .nilFunc .nilFunc).run P w=.ok () w:=by cases op<;>simp[eqGuard]
end
theorem Rk (f:FuncId)(w:World):(binOp .eql 182 (.func (.func f) #[] #[]) .nilFunc).run prog w=.ok (.bool false) w:=by kernel_rfl
theorem Rl (w:World):(binOp .eql 182 .nilFunc .nilFunc).run prog w=.ok (.bool true) w:=by kernel_rfl
end Go.Proofs.YtncdbjponknakaaGreatDoor.Ari
end
section
namespace Go.Proofs.YtncdbjponknakaaGreatDoor.Ari
attribute [local go_sem] Sa Sj Sd Sf Sg RF SC Sk RG Se Sc Sb QW Sh Si Tl SH wL pD SI SJ Rk Rl
theorem RJ:Value.int .i64 0=I 0:=by simp[I]
theorem RM {P:Program}{w:World}(t:TypeId)(x:BitVec 64):(binOp .eql t (I x) (.int .i64 0)).run P w=.ok (.bool (x==0#64)) w:=by rw[RJ];exact RG t x 0
attribute [local go_sem] RM
def tr (t:Bool):BitVec 64:=if t then 1#64 else 0#64
def Tk (op:Int)(a b:BitVec 64):BitVec 64:=
 if op=1 then a+b else if op=2 then a-b else if op=3 then a*b else if op=4 then a.sdiv b else if op=5 then a.srem b else if op=6 then a&&&b
 else if op=7 then a|||b else if op=8 then a^^^b else if op=9 then a<<<(b&&&63#64).toNat else if op=10 then a.sshiftRight (b&&&63#64).toNat
 else if op=11 then(tr (a==b)) else if op=12 then(tr (a.slt b)) else 0
def Sr (op:Int)(b:BitVec 64):Int:=if op<1∨12<op then 1 else if(op=4∨op=5)∧b=0#64 then 20 else 0
def Sx (op:Int)(a b:BitVec 64):BitVec 64:=if Sr op b=0 then Tk op a b else 0
theorem ei (t:Bool)(w:World):Calls prog 119 #[.bool t] w fun e j=>e=.returned (I (tr t))∧w=j:=by
 cases t
 all_goals
  go_enter func119,ntmps119;go_wp2;go_ret;exact⟨rfl,rfl⟩
theorem SK (a b:BitVec 64)(w:World):Calls prog 108 #[I a,I b] w fun e j=>e=.returned (I (a+b))∧w=j:=by go_enter func108,ntmps108;go_wp2_with (go_at_call 119;refine(ei _ _).mono ?_;rintro e j ⟨rfl,rfl⟩);go_ret;exact⟨rfl,rfl⟩
theorem SL (a b:BitVec 64)(w:World):Calls prog 109 #[I a,I b] w fun e j=>e=.returned (I (a-b))∧w=j:=by go_enter func109,ntmps109;go_wp2_with (go_at_call 119;refine(ei _ _).mono ?_;rintro e j ⟨rfl,rfl⟩);go_ret;exact⟨rfl,rfl⟩
theorem SM (a b:BitVec 64)(w:World):Calls prog 110 #[I a,I b] w fun e j=>e=.returned (I (a*b))∧w=j:=by go_enter func110,ntmps110;go_wp2_with (go_at_call 119;refine(ei _ _).mono ?_;rintro e j ⟨rfl,rfl⟩);go_ret;exact⟨rfl,rfl⟩
theorem SN (a b:BitVec 64)(w:World)(l:b≠0#64):Calls prog 111 #[I a,I b] w fun e j=>e=.returned (I (a.sdiv b))∧w=j:=by go_enter func111,ntmps111;go_wp2_with (go_at_call 119;refine(ei _ _).mono ?_;rintro e j ⟨rfl,rfl⟩);go_ret;exact⟨rfl,rfl⟩
theorem SO (a b:BitVec 64)(w:World)(l:b≠0#64):Calls prog 112 #[I a,I b] w fun e j=>e=.returned (I (a.srem b))∧w=j:=by go_enter func112,ntmps112;go_wp2_with (go_at_call 119;refine(ei _ _).mono ?_;rintro e j ⟨rfl,rfl⟩);go_ret;exact⟨rfl,rfl⟩
theorem SP (a b:BitVec 64)(w:World):Calls prog 113 #[I a,I b] w fun e j=>e=.returned (I (a&&&b))∧w=j:=by go_enter func113,ntmps113;go_wp2_with (go_at_call 119;refine(ei _ _).mono ?_;rintro e j ⟨rfl,rfl⟩);go_ret;exact⟨rfl,rfl⟩
theorem SQ (a b:BitVec 64)(w:World):Calls prog 114 #[I a,I b] w fun e j=>e=.returned (I (a|||b))∧w=j:=by go_enter func114,ntmps114;go_wp2_with (go_at_call 119;refine(ei _ _).mono ?_;rintro e j ⟨rfl,rfl⟩);go_ret;exact⟨rfl,rfl⟩
theorem SR (a b:BitVec 64)(w:World):Calls prog 115 #[I a,I b] w fun e j=>e=.returned (I (a^^^b))∧w=j:=by go_enter func115,ntmps115;go_wp2_with (go_at_call 119;refine(ei _ _).mono ?_;rintro e j ⟨rfl,rfl⟩);go_ret;exact⟨rfl,rfl⟩
theorem SS (a b:BitVec 64)(w:World):Calls prog 116 #[I a,I b] w fun e j=>e=.returned (I (a<<<(b&&&63#64).toNat))∧w=j:=by go_enter func116,ntmps116;go_wp2_with (go_at_call 119;refine(ei _ _).mono ?_;rintro e j ⟨rfl,rfl⟩);go_ret;exact⟨rfl,rfl⟩
theorem ST (a b:BitVec 64)(w:World):Calls prog 117 #[I a,I b] w fun e j=>e=.returned (I (a.sshiftRight (b&&&63#64).toNat))∧w=j:=by go_enter func117,ntmps117;go_wp2_with (go_at_call 119;refine(ei _ _).mono ?_;rintro e j ⟨rfl,rfl⟩);go_ret;exact⟨rfl,rfl⟩
theorem SU (a b:BitVec 64)(w:World):Calls prog 118 #[I a,I b] w fun e j=>e=.returned (I (tr (a==b)))∧w=j:=by go_enter func118,ntmps118;go_wp2_with (go_at_call 119;refine(ei _ _).mono ?_;rintro e j ⟨rfl,rfl⟩);go_ret;exact⟨rfl,rfl⟩
theorem SW (a b:BitVec 64)(w:World):Calls prog 120 #[I a,I b] w fun e j=>e=.returned (I (tr (a.slt b)))∧w=j:=by go_enter func120,ntmps120;go_wp2_with (go_at_call 119;refine(ei _ _).mono ?_;rintro e j ⟨rfl,rfl⟩);go_ret;exact⟨rfl,rfl⟩
theorem OF (op:Int)(w:World)(_:0≤op)(_:op<256):Calls prog 77 #[.int .u8 op] w fun e o=>e=.returned (.bool (op==4||op==5))∧w=o:=by
 by_cases j:(op==4)=true
 ·go_enter func77,ntmps77
  go_wp2;go_ret;exact⟨by simp[j],rfl⟩
 have l:(op==4)=false:=by simpa using j
 clear j;go_enter func77,ntmps77;go_wp2;go_ret;exact⟨by simp[l],rfl⟩
theorem NR (op:Int)(w:World)(h:op=4∨op=5):Calls prog 77 #[.int .u8 op] w fun e j=>e=.returned (.bool true)∧w=j:=by refine(OF op w (by omega) (by omega)).mono ?_;rintro e j ⟨rfl,rfl⟩;rcases h with rfl|rfl<;>exact⟨rfl,rfl⟩
theorem Nq (op:Int)(w:World)(C:0≤op)(J:op<256)(h:op≠4∧op≠5):Calls prog 77 #[.int .u8 op] w fun e j=>e=.returned (.bool false)∧w=j:=by
 refine(OF op w (by omega) (by omega)).mono ?_;rintro e j ⟨rfl,rfl⟩;have l:(op==4)=false:=by simpa using h.1
 have o:(op==5)=false:=by simpa using h.2
 exact⟨by rw[l,o];rfl,rfl⟩
theorem SZ (a b:BitVec 64)(w:World):Calls prog 52 #[.int .u8 1,I a,I b] w fun e j=>e=.returned (.tuple #[I (a+b),.int .i64 0])∧w.alloc (mp 12)=j:=by have l:(Instr.lookup 183 (.map (some w.heap.size)) (.int .u8 1) false).run prog (w.alloc (mp 12))=.ok (.func (.func 108) #[] #[]) (w.alloc (mp 12)):=xq w 1 (by decide) (by decide);go_enter func52,ntmps52;go_wp2_with (first|(go_at_call 76;refine(ee _).mono ?_;rintro e j ⟨rfl,rfl⟩)|(go_at_call 77;refine(Nq _ _ (by omega) (by omega) (by omega)).mono ?_;rintro e j ⟨rfl,rfl⟩)|(go_at_call 108;refine(SK _ _ _).mono ?_;rintro e j ⟨rfl,rfl⟩));go_ret2;exact⟨rfl,rfl⟩
theorem Ta (a b:BitVec 64)(w:World):Calls prog 52 #[.int .u8 2,I a,I b] w fun e j=>e=.returned (.tuple #[I (a-b),.int .i64 0])∧w.alloc (mp 12)=j:=by have l:(Instr.lookup 183 (.map (some w.heap.size)) (.int .u8 2) false).run prog (w.alloc (mp 12))=.ok (.func (.func 109) #[] #[]) (w.alloc (mp 12)):=xq w 2 (by decide) (by decide);go_enter func52,ntmps52;go_wp2_with (first|(go_at_call 76;refine(ee _).mono ?_;rintro e j ⟨rfl,rfl⟩)|(go_at_call 77;refine(Nq _ _ (by omega) (by omega) (by omega)).mono ?_;rintro e j ⟨rfl,rfl⟩)|(go_at_call 109;refine(SL _ _ _).mono ?_;rintro e j ⟨rfl,rfl⟩));go_ret2;exact⟨rfl,rfl⟩
theorem Tb (a b:BitVec 64)(w:World):Calls prog 52 #[.int .u8 3,I a,I b] w fun e j=>e=.returned (.tuple #[I (a*b),.int .i64 0])∧w.alloc (mp 12)=j:=by have l:(Instr.lookup 183 (.map (some w.heap.size)) (.int .u8 3) false).run prog (w.alloc (mp 12))=.ok (.func (.func 110) #[] #[]) (w.alloc (mp 12)):=xq w 3 (by decide) (by decide);go_enter func52,ntmps52;go_wp2_with (first|(go_at_call 76;refine(ee _).mono ?_;rintro e j ⟨rfl,rfl⟩)|(go_at_call 77;refine(Nq _ _ (by omega) (by omega) (by omega)).mono ?_;rintro e j ⟨rfl,rfl⟩)|(go_at_call 110;refine(SM _ _ _).mono ?_;rintro e j ⟨rfl,rfl⟩));go_ret2;exact⟨rfl,rfl⟩
theorem Ti (a b:BitVec 64)(w:World)(l:b≠0#64):Calls prog 52 #[.int .u8 4,I a,I b] w fun e j=>e=.returned (.tuple #[I (a.sdiv b),.int .i64 0])∧w.alloc (mp 12)=j:=by
 have C:(Instr.lookup 183 (.map (some w.heap.size)) (.int .u8 4) false).run prog (w.alloc (mp 12))=.ok (.func (.func 111) #[] #[]) (w.alloc (mp 12)):=xq w 4 (by decide) (by decide);have o:(b==0#64)=false:=by simpa using l
 go_enter func52,ntmps52;go_wp2_with (first|(go_at_call 76;refine(ee _).mono ?_;rintro e j ⟨rfl,rfl⟩)|(go_at_call 77;refine(NR _ _ (by omega)).mono ?_;rintro e j ⟨rfl,rfl⟩)|(go_at_call 111;refine(SN _ _ _ l).mono ?_;rintro e j ⟨rfl,rfl⟩));go_ret2;exact⟨rfl,rfl⟩
theorem Tj (a b:BitVec 64)(w:World)(l:b≠0#64):Calls prog 52 #[.int .u8 5,I a,I b] w fun e j=>e=.returned (.tuple #[I (a.srem b),.int .i64 0])∧w.alloc (mp 12)=j:=by
 have C:(Instr.lookup 183 (.map (some w.heap.size)) (.int .u8 5) false).run prog (w.alloc (mp 12))=.ok (.func (.func 112) #[] #[]) (w.alloc (mp 12)):=xq w 5 (by decide) (by decide);have o:(b==0#64)=false:=by simpa using l
 go_enter func52,ntmps52;go_wp2_with (first|(go_at_call 76;refine(ee _).mono ?_;rintro e j ⟨rfl,rfl⟩)|(go_at_call 77;refine(NR _ _ (by omega)).mono ?_;rintro e j ⟨rfl,rfl⟩)|(go_at_call 112;refine(SO _ _ _ l).mono ?_;rintro e j ⟨rfl,rfl⟩));go_ret2;exact⟨rfl,rfl⟩
theorem Tc (a b:BitVec 64)(w:World):Calls prog 52 #[.int .u8 6,I a,I b] w fun e j=>e=.returned (.tuple #[I (a&&&b),.int .i64 0])∧w.alloc (mp 12)=j:=by have l:(Instr.lookup 183 (.map (some w.heap.size)) (.int .u8 6) false).run prog (w.alloc (mp 12))=.ok (.func (.func 113) #[] #[]) (w.alloc (mp 12)):=xq w 6 (by decide) (by decide);go_enter func52,ntmps52;go_wp2_with (first|(go_at_call 76;refine(ee _).mono ?_;rintro e j ⟨rfl,rfl⟩)|(go_at_call 77;refine(Nq _ _ (by omega) (by omega) (by omega)).mono ?_;rintro e j ⟨rfl,rfl⟩)|(go_at_call 113;refine(SP _ _ _).mono ?_;rintro e j ⟨rfl,rfl⟩));go_ret2;exact⟨rfl,rfl⟩
theorem Td (a b:BitVec 64)(w:World):Calls prog 52 #[.int .u8 7,I a,I b] w fun e j=>e=.returned (.tuple #[I (a|||b),.int .i64 0])∧w.alloc (mp 12)=j:=by have l:(Instr.lookup 183 (.map (some w.heap.size)) (.int .u8 7) false).run prog (w.alloc (mp 12))=.ok (.func (.func 114) #[] #[]) (w.alloc (mp 12)):=xq w 7 (by decide) (by decide);go_enter func52,ntmps52;go_wp2_with (first|(go_at_call 76;refine(ee _).mono ?_;rintro e j ⟨rfl,rfl⟩)|(go_at_call 77;refine(Nq _ _ (by omega) (by omega) (by omega)).mono ?_;rintro e j ⟨rfl,rfl⟩)|(go_at_call 114;refine(SQ _ _ _).mono ?_;rintro e j ⟨rfl,rfl⟩));go_ret2;exact⟨rfl,rfl⟩
theorem Te (a b:BitVec 64)(w:World):Calls prog 52 #[.int .u8 8,I a,I b] w fun e j=>e=.returned (.tuple #[I (a^^^b),.int .i64 0])∧w.alloc (mp 12)=j:=by have l:(Instr.lookup 183 (.map (some w.heap.size)) (.int .u8 8) false).run prog (w.alloc (mp 12))=.ok (.func (.func 115) #[] #[]) (w.alloc (mp 12)):=xq w 8 (by decide) (by decide);go_enter func52,ntmps52;go_wp2_with (first|(go_at_call 76;refine(ee _).mono ?_;rintro e j ⟨rfl,rfl⟩)|(go_at_call 77;refine(Nq _ _ (by omega) (by omega) (by omega)).mono ?_;rintro e j ⟨rfl,rfl⟩)|(go_at_call 115;refine(SR _ _ _).mono ?_;rintro e j ⟨rfl,rfl⟩));go_ret2;exact⟨rfl,rfl⟩
theorem Tf (a b:BitVec 64)(w:World):Calls prog 52 #[.int .u8 9,I a,I b] w fun e j=>e=.returned (.tuple #[I (a<<<(b&&&63#64).toNat),.int .i64 0])∧w.alloc (mp 12)=j:=by have l:(Instr.lookup 183 (.map (some w.heap.size)) (.int .u8 9) false).run prog (w.alloc (mp 12))=.ok (.func (.func 116) #[] #[]) (w.alloc (mp 12)):=xq w 9 (by decide) (by decide);go_enter func52,ntmps52;go_wp2_with (first|(go_at_call 76;refine(ee _).mono ?_;rintro e j ⟨rfl,rfl⟩)|(go_at_call 77;refine(Nq _ _ (by omega) (by omega) (by omega)).mono ?_;rintro e j ⟨rfl,rfl⟩)|(go_at_call 116;refine(SS _ _ _).mono ?_;rintro e j ⟨rfl,rfl⟩));go_ret2;exact⟨rfl,rfl⟩
theorem Sn (a b:BitVec 64)(w:World):Calls prog 52 #[.int .u8 10,I a,I b] w fun e j=>e=.returned (.tuple #[I (a.sshiftRight (b&&&63#64).toNat),.int .i64 0])∧w.alloc (mp 12)=j:=by have l:(Instr.lookup 183 (.map (some w.heap.size)) (.int .u8 10) false).run prog (w.alloc (mp 12))=.ok (.func (.func 117) #[] #[]) (w.alloc (mp 12)):=xq w 10 (by decide) (by decide);go_enter func52,ntmps52;go_wp2_with (first|(go_at_call 76;refine(ee _).mono ?_;rintro e j ⟨rfl,rfl⟩)|(go_at_call 77;refine(Nq _ _ (by omega) (by omega) (by omega)).mono ?_;rintro e j ⟨rfl,rfl⟩)|(go_at_call 117;refine(ST _ _ _).mono ?_;rintro e j ⟨rfl,rfl⟩));go_ret2;exact⟨rfl,rfl⟩
theorem So (a b:BitVec 64)(w:World):Calls prog 52 #[.int .u8 11,I a,I b] w fun e j=>e=.returned (.tuple #[I (tr (a==b)),.int .i64 0])∧w.alloc (mp 12)=j:=by have l:(Instr.lookup 183 (.map (some w.heap.size)) (.int .u8 11) false).run prog (w.alloc (mp 12))=.ok (.func (.func 118) #[] #[]) (w.alloc (mp 12)):=xq w 11 (by decide) (by decide);go_enter func52,ntmps52;go_wp2_with (first|(go_at_call 76;refine(ee _).mono ?_;rintro e j ⟨rfl,rfl⟩)|(go_at_call 77;refine(Nq _ _ (by omega) (by omega) (by omega)).mono ?_;rintro e j ⟨rfl,rfl⟩)|(go_at_call 118;refine(SU _ _ _).mono ?_;rintro e j ⟨rfl,rfl⟩));go_ret2;exact⟨rfl,rfl⟩
theorem Sq (a b:BitVec 64)(w:World):Calls prog 52 #[.int .u8 12,I a,I b] w fun e j=>e=.returned (.tuple #[I (tr (a.slt b)),.int .i64 0])∧w.alloc (mp 12)=j:=by have l:(Instr.lookup 183 (.map (some w.heap.size)) (.int .u8 12) false).run prog (w.alloc (mp 12))=.ok (.func (.func 120) #[] #[]) (w.alloc (mp 12)):=xq w 12 (by decide) (by decide);go_enter func52,ntmps52;go_wp2_with (first|(go_at_call 76;refine(ee _).mono ?_;rintro e j ⟨rfl,rfl⟩)|(go_at_call 77;refine(Nq _ _ (by omega) (by omega) (by omega)).mono ?_;rintro e j ⟨rfl,rfl⟩)|(go_at_call 120;refine(SW _ _ _).mono ?_;rintro e j ⟨rfl,rfl⟩));go_ret2;exact⟨rfl,rfl⟩
theorem SD (a:BitVec 64)(w:World):Calls prog 52 #[.int .u8 4,I a,I 0#64] w fun e j=>e=.returned (.tuple #[I 0#64,.int .i64 20])∧w.alloc (mp 12)=j:=by have l:(Instr.lookup 183 (.map (some w.heap.size)) (.int .u8 4) false).run prog (w.alloc (mp 12))=.ok (.func (.func 111) #[] #[]) (w.alloc (mp 12)):=xq w 4 (by decide) (by decide);go_enter func52,ntmps52;go_wp2_with (first|(go_at_call 76;refine(ee _).mono ?_;rintro e j ⟨rfl,rfl⟩)|(go_at_call 77;refine(NR _ _ (by omega)).mono ?_;rintro e j ⟨rfl,rfl⟩));go_ret2;exact⟨rfl,rfl⟩
theorem SE (a:BitVec 64)(w:World):Calls prog 52 #[.int .u8 5,I a,I 0#64] w fun e j=>e=.returned (.tuple #[I 0#64,.int .i64 20])∧w.alloc (mp 12)=j:=by have l:(Instr.lookup 183 (.map (some w.heap.size)) (.int .u8 5) false).run prog (w.alloc (mp 12))=.ok (.func (.func 112) #[] #[]) (w.alloc (mp 12)):=xq w 5 (by decide) (by decide);go_enter func52,ntmps52;go_wp2_with (first|(go_at_call 76;refine(ee _).mono ?_;rintro e j ⟨rfl,rfl⟩)|(go_at_call 77;refine(NR _ _ (by omega)).mono ?_;rintro e j ⟨rfl,rfl⟩));go_ret2;exact⟨rfl,rfl⟩
theorem Ri (op:Int)(h:op<1∨12<op):Oo Tm op=none:=by
 simp only[Oo,Option.map_eq_none_iff,List.find?_eq_none];intro x j;have:1≤x.1∧x.1≤12:=by simp only[Tm,fX,List.not_mem_nil,or_false] at j;rcases j with rfl|rfl|rfl|rfl|rfl|rfl|rfl|rfl|rfl|rfl|rfl|rfl<;>exact⟨by decide,by decide⟩
 simp;omega
theorem Ss (op:Int)(a b:BitVec 64)(w:World)(l:0≤op)(o:op<256)(h:op<1∨12<op):Calls prog 52 #[.int .u8 op,I a,I b] w fun e j=>e=.returned (.tuple #[I 0#64,.int .i64 1])∧w.alloc (mp 12)=j:=by
 have C:(Instr.lookup 183 (.map (some w.heap.size)) (.int .u8 op) false).run prog (w.alloc (mp 12))=.ok .nilFunc (w.alloc (mp 12)):=by have:=xq w op l o;rw[Ri op h] at this;exact this
 go_enter func52,ntmps52;go_wp2_with (first|(go_at_call 76;refine(ee _).mono ?_;rintro e j ⟨rfl,rfl⟩));go_ret2;exact⟨rfl,rfl⟩
def SF (op:Int)(a b:BitVec 64):Value:=.tuple #[I (Sx op a b),.int .i64 (Sr op b)]
theorem SG (op:Int)(a b:BitVec 64)(w:World)(o:0≤op)(C:op<256):Calls prog 52 #[.int .u8 op,I a,I b] w fun e J=>e=.returned (SF op a b)∧w.alloc (mp 12)=J:=by
 by_cases h:op<1∨12<op
 ·have j:Sr op b=1:=ap h
  have R:Sx op a b=0#64:=by rw[Sx,j];rfl
  rw[SF,j,R];exact Ss op a b w o C h
 have:op=1∨op=2∨op=3∨op=4∨op=5∨op=6∨op=7∨op=8∨op=9∨op=10∨op=11∨op=12:=by omega
 by_cases l:b=0#64;·(
 subst l;rcases this with rfl|rfl|rfl|rfl|rfl|rfl|rfl|rfl|rfl|rfl|rfl|rfl;·exact SZ a _ w
 ·exact Ta a _ w
 ·exact Tb a _ w
 ·exact SD a w
 ·exact SE a w
 ·exact Tc a _ w
 ·exact Td a _ w
 ·exact Te a _ w
 ·exact Tf a _ w
 ·exact Sn a _ w
 ·exact So a _ w
 exact Sq a _ w)
 have j:Sr op b=0:=by rw[Sr,ae h,ae (fun e=>l e.2)]
 rw[SF,j,Sx,j,ap rfl];rcases this with rfl|rfl|rfl|rfl|rfl|rfl|rfl|rfl|rfl|rfl|rfl|rfl;·exact SZ a b w
 ·exact Ta a b w
 ·exact Tb a b w
 ·exact Ti a b w l
 ·exact Tj a b w l
 ·exact Tc a b w
 ·exact Td a b w
 ·exact Te a b w
 ·exact Tf a b w
 ·exact Sn a b w
 ·exact So a b w
 exact Sq a b w
end Go.Proofs.YtncdbjponknakaaGreatDoor.Ari
end
def SX (v:Value):Prop:=∃x t:Int,v=.tuple #[.int .i64 x,.int .i64 t]∧aV x∧(t=0∨t=1∨t=20)
theorem St {a:Int}(h:aV a):Value.int .i64 a=Go.Proofs.YtncdbjponknakaaGreatDoor.Ari.I (BitVec.ofInt 64 a):=by unfold Go.Proofs.YtncdbjponknakaaGreatDoor.Ari.I;congr 1;rw[BitVec.toInt_ofInt];unfold aV at h;exact(Int.bmod_eq_of_le (by omega) (by omega)).symm
theorem PM (x:BitVec 64):aV x.toInt:=by have j:=x.toInt_lt;have l:=x.le_toInt;unfold aV;omega
theorem Rc (op:Nat)(a b:Int)(w:World)(h:op<256)(l:aV a)(o:aV b):Calls prog 52 #[.int .u8 op,.int .i64 a,.int .i64 b] w fun e j=>∃v,e=.returned v∧SX v∧aa All w j:=by
 rw[St l,St o];refine(Go.Proofs.YtncdbjponknakaaGreatDoor.Ari.SG op _ _ w (by omega) (by omega)).mono ?_;rintro e j ⟨rfl,rfl⟩;refine⟨_,rfl,⟨_,_,rfl,PM _,?_⟩,kR.alloc _⟩;unfold Go.Proofs.YtncdbjponknakaaGreatDoor.Ari.Sr;split;·exact .inr (.inl rfl)
 split;·exact .inr (.inr rfl)
 exact .inl rfl
theorem Np.stepped {M:sm}{w:World}{j:Value}{o:List Fr}{n e:Nat}(h:Np M w j o n e):Np M (w.setCell ⟨M.mb,8,none⟩ (.int .i64 ((n:Int)+1))) j o (n+1) e:=by have hu:Nt M [70] w (w.setCell ⟨M.mb,8,none⟩ (.int .i64 ((n:Int)+1))):=(Nt.refl (M:=M)).set h.core.mach M.mb_s (by simp) _;have l:=h.core.mach.set 8 (.int .i64 ((n:Int)+1));simp only[ga] at l;rw[show(n:Int)+1=((n+1:Nat):Int) by omega] at l hu⊢;exact⟨h.core.upd hu l (h.core.box.upd hu (by decide) (by decide) (by decide)) (by decide) (by decide),h.frames.upd hu (by decide) (by decide) (by decide)⟩
theorem Np.rest {M:sm}{w:World}{j:Value}{l:List Fr}{n e:Nat}(h:Np M w j l n e):Pk M w:=⟨_,_,_,h.core⟩
def Hz (M:sm)(n e:Nat)(en:Ending)(w':World):Prop:=(en=.returned (.tuple #[])∧∃frv' fs' e',Np M w' frv' fs' (n+1) e'∧e'≤e+1∧OU M.c fs')∨∃t:Int,t≠22∧NJ t en∧Pk M w'
theorem Pu (M:sm)(w:World)(d8:Value)(fs:List Fr)(n e:Nat)(f:Fr)(x:bz)(b:aw)(hM:iU M)(hI:Np M w d8 (f::fs) n e)(hU:Ns M.c f.fn fs)(Z:Nw M.c f=some x)(hb:M.c.Nf[f.fn]? =some b)(hF:CA M.p M.c b x)(hv:0≤b.vars∧b.vars≤100000)(hn:n≤2000000)(h6:f.Nj<100000)(h7:M.p.Nc≤64)(l:x.kind=1):
 Calls prog 39 #[.pointer (some ⟨M.mb,0,none⟩)] w fun en w'=>Hz M n e en w':=by
 obtain⟨nv,a1⟩:∃nv:Nat,b.vars=nv:=⟨b.vars.toNat,by omega⟩;have h8:nv≤100000:=by omega
 have b1:f∈f::fs:=List.mem_cons_self ..;have c2:=hI.frames.deep;have d9:fs.length<1000:=by rw[kI] at c2;omega
 clear c2;obtain⟨fa,fo,fn,fc,ba,bo,bn,bc,oa,oo,on,oc,av,v,⟨a6,⟨b',c3,C⟩,b2⟩,c4,h9,i0,i1,e8,c5,j⟩:=NI hM hI.core.kept Z (hI.frames.each f b1);obtain rfl:b'=b:=kJ (c3.symm.trans hb);obtain rfl:a6=nv:=by rw[a1,dP] at C;exact C.symm
 obtain⟨vg,rfl,_⟩:=b2.form;obtain⟨d,e9,hd⟩:=hF.dst (by omega);rw[a1] at hd;have h0:d<a6:=by omega
 have h1:=c5.num;have c6:ct x av=.iface 130 (.agg #[.int .i64 (d:Nat),.int .i64 x.num]):=by unfold ct;simp[l,e9]
 have h2:=Nm hM.code Z (by omega) hU f.g;rw[c6] at j;have b4:=hI.core.mach;rw[c4] at b4;have HL:=oH (Nl hI d9);have HI:=J4 hI b2 hb a1;have HU:=J3 hU Z hM;have Y:=oH (show∀wn,aa All w wn→wn.cell? ⟨M.mb,4,none⟩=some (.slice (some ⟨fa,fo,none⟩) fn fc)∧wn.cell? ⟨f.g,0,none⟩=some (.int .i64 (f.fn:Nat))∧wn.cell? ⟨f.g,1,none⟩=some (.int .i64 (f.blk:Nat))∧wn.cell? ⟨f.g,2,none⟩=some (.int .i64 (f.Nj:Nat))∧wn.cell? ⟨f.g,3,none⟩=some (.slice (some ⟨vg,0,none⟩) a6 a6)∧wn.cell? ⟨fa,fo+f.fn,none⟩=some (.slice (some ⟨ba,bo,none⟩) bn bc)∧wn.cell? ⟨ba,bo+f.blk*2+1,none⟩=some (.slice (some ⟨oa,oo,none⟩) on oc)∧wn.cell? ⟨oa,oo+f.Nj,none⟩=some (.iface 130 (.agg #[.int .i64 (d:Nat),.int .i64 x.num])) from fun wn l=>⟨(b4.kept l trivial).cell 4,(j wn l).1,(j wn l).2.1,(j wn l).2.2.1,(j wn l).2.2.2.1,(j wn l).2.2.2.2.1,(j wn l).2.2.2.2.2.1,(j wn l).2.2.2.2.2.2⟩);have c1:∀wn,(Instr.typeAssert (.iface 130 (.agg #[.int .i64 (d:Nat),.int .i64 x.num])) 20 130 true).run prog wn=.ok (.tuple #[.agg #[.int .i64 (d:Nat),.int .i64 x.num],.bool true]) wn:=fun wn=>by kernel_rfl
 have i2:IntKind.i64.wrap ((n:Int)+1)=(n:Int)+1:=by rw[IntKind.wrap_i64];omega
 have i4:IntKind.i64.wrap ((f.Nj:Int)+1)=(f.Nj:Int)+1:=by rw[IntKind.wrap_i64];omega
 clear hI b2 hb a1 C c3 c4 j c6 b4 e8 c5 Z hM hU hF;go_enter func39,ntmps39;go_wp2_with fail;refine HL.out.mono ?_;rintro en w1 ⟨rfl,c7⟩;have o:=oH c7;clear c7;go_wp2_with fail;refine R0 24 w1 (fun _=>none) ?_;iterate 3 refine O0 ?_
 refine O3 (fun wn l hp=>by(obtain⟨e0,e1,e2,e3,e4,e5,e6,e7⟩:=Y.out wn (o.out.trans l);go_simp;with_reducible rfl)) ?_;iterate 3 refine O0 ?_
 refine O3 (fun wn l hp=>by(obtain⟨e0,e1,e2,e3,e4,e5,e6,e7⟩:=Y.out wn (o.out.trans l);go_simp;with_reducible rfl)) ?_;refine O0 ?_;refine O3 (fun wn l hp=>by(obtain⟨e0,e1,e2,e3,e4,e5,e6,e7⟩:=Y.out wn (o.out.trans l);go_simp;with_reducible rfl)) ?_;iterate 3 refine O0 ?_
 refine O3 (fun wn l hp=>by(obtain⟨e0,e1,e2,e3,e4,e5,e6,e7⟩:=Y.out wn (o.out.trans l);go_simp;with_reducible rfl)) ?_;iterate 2 refine O0 ?_
 refine O3 (fun wn l hp=>by(obtain⟨e0,e1,e2,e3,e4,e5,e6,e7⟩:=Y.out wn (o.out.trans l);go_simp;with_reducible rfl)) ?_;iterate 3 refine O0 ?_
 refine O3 (fun wn l hp=>by(obtain⟨e0,e1,e2,e3,e4,e5,e6,e7⟩:=Y.out wn (o.out.trans l);go_simp;with_reducible rfl)) ?_;refine O0 ?_;refine O3 (fun wn l hp=>by(obtain⟨e0,e1,e2,e3,e4,e5,e6,e7⟩:=Y.out wn (o.out.trans l);go_simp;with_reducible rfl)) ?_;refine O0 ?_;refine aG fun w2 J hF=>?_;have H2:=oH J;clear J hF;simp only[dK];have a7:=oH (o.out.trans H2.out);clear H2 o;obtain⟨W3,a8⟩:=eQ (w2.alloc (.cells #[.int .i64 (d:Nat),.int .i64 x.num] 130));have c8:aa All w2 W3:=by rw[a8];exact kR.alloc _
 have b3:al W3 w2.heap.size 130 #[.int .i64 (d:Nat),.int .i64 x.num]:=by rw[a8];exact ac rfl
 have HX:=oH (show∀wn,aa All W3 wn→wn.cell? ⟨w2.heap.size,0,none⟩=some (.int .i64 (d:Nat))∧wn.cell? ⟨w2.heap.size,1,none⟩=some (.int .i64 x.num) from fun wn l=>⟨(b3.kept l trivial).cell 0,(b3.kept l trivial).cell 1⟩);have HB:=J2 c8 a8;clear c8 a8 b3;go_upto_region 5 with fail;rw[←HB.2];refine R0 9 W3 (fun _=>none) ?_;iterate 3 refine O0 ?_
 refine O3 (fun wn l hp=>by(obtain⟨e0,e1,e2,e3,e4,e5,e6,e7⟩:=Y.out wn ((a7.out.trans HB.1).trans l);obtain⟨x0,x1⟩:=HX.out wn l;go_simp;with_reducible rfl)) ?_;refine O0 ?_;refine O3 (fun wn l hp=>by(obtain⟨e0,e1,e2,e3,e4,e5,e6,e7⟩:=Y.out wn ((a7.out.trans HB.1).trans l);obtain⟨x0,x1⟩:=HX.out wn l;go_simp;with_reducible rfl)) ?_;refine O0 ?_;refine O3 (fun wn l hp=>by(obtain⟨e0,e1,e2,e3,e4,e5,e6,e7⟩:=Y.out wn ((a7.out.trans HB.1).trans l);obtain⟨x0,x1⟩:=HX.out wn l;go_simp;with_reducible rfl)) ?_;refine O0 ?_;refine aG fun w4 J hF=>?_;have H4:=oH J;clear J hF;simp only[List.drop_succ_cons];have b5:=(a7.out.trans HB.1).trans H4.out;have b6:=HI.2.1.kept b5;obtain⟨_,_,o1,o2,o3,_⟩:=b6.at (i:=d) h0;cases o1;have h3:=HI.1.turn ((tq.of_kept (N:=M.N) b5).set (i:=d) b6 rfl h1);go_upto_region 41 with fail;generalize w4.setCell _ _=W5 at*;clear o2 o3 b6 b5;have hJ:=h3;have HJ:=oH hJ;obtain⟨v8,b8,b0,c9,b7⟩:=(hJ.frames.each f b1).at_;obtain rfl:b8=b':=kJ (c9.symm.trans HI.2.2.1);rw[HI.2.2.2,dP] at b7;have m2:=b0.cell 2;have n2:=b0.free 2;simp only[gc] at m2;have b9:=J2 b0 b7;clear hJ b0 c9 b7;go_upto_region 42 with fail;have d7:=(Nt.refl (M:=M) (ts:=[114])).set (i:=2) b9.1 (sm.hi (HJ.out.frames.each f b1).lo) (by simp) (.int .i64 ((f.Nj+1:Nat):Int));have c0:=b9.1.set 2 (.int .i64 ((f.Nj+1:Nat):Int));simp only[ga] at c0;have R:=HJ.out.moved f.blk (f.Nj+1) d7 c0 HI.2.2.1 HI.2.2.2 b9.2 fun g' h4 cs hc=>hc.far (p:=⟨f.g,2,none⟩) (fun e=>by have:=HJ.out.frames.once;rw[List.map_cons,List.nodup_cons] at this;have e:g'=f.g:=e;exact this.1 (e▸h4)) _;rw[show((f.Nj+1:Nat):Int)=(f.Nj:Int)+1 by omega] at R;generalize W5.setCell _ _=W9 at*;have m8:=R.core.mach.cell 8;have n8:=R.core.mach.free 8;simp only[gc] at m8;have h5:=oH R;clear R d7 c0 m2 n2;go_wp2_with fail
 go_end0
 exact .inl ⟨rfl,_,_,_,h5.out.stepped,by omega,h2⟩
end Go.Proofs.YtncdbjponknakaaGreatDoor
