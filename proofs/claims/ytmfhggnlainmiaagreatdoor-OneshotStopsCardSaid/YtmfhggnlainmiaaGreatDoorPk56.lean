/- Part 56. -/
import Derived.Test.YtmfhggnlainmiaaGreatDoorPk28
import Derived.Test.YtmfhggnlainmiaaGreatDoorPk55
import Derived.Test.YtmfhggnlainmiaaGreatDoorPk54
set_option linter.unusedVariables false
set_option maxHeartbeats 16000000
namespace Go.Proofs.YtmfhggnlainmiaaGreatDoor
open Lib (hid)
section
open Go.RowKit Go.Extern.Stop Go.Stop Go.Extern
theorem Tryz.methodComparable (h:Value) (w:World):(Go.method 553 272 (.agg #[h]) "Comparable").run Tryz.prog w=.ok (375,.agg #[h]) w:=by kernel_rfl
theorem Tryz.comparableE (w:World):(ReflectliteType.method (fun t=>do Rtype.noPackHeld "Comparable" t;(fun a:TypeInfo=>Value.bool a.comparable) <$> typeInfo t) #[.agg #[.pointer (some ⟨2,27,none⟩)]]).run Tryz.prog w=.ok (.bool true) w:=by kernel_rfl
theorem Tryz.asIsE (v:Value) (xT:TypeId) (w:World):(Instr.typeAssert (.iface 27 v) xT 400 true).run Tryz.prog w=.ok (.tuple #[.nilIface,.bool false]) w:=
 run_typeAssert_lacksB Tryz.underlying400 (by kernel_rfl) (by kernel_rfl) v xT w
theorem zpw (c d:Int) (w:World):(binOp .eql 38 (.iface 27 (.int .i64 c)) (.iface 27 (.int .i64 d))).run Tryz.prog w=.ok (.bool (decide (c=d))) w:=by
 exact Lib.run_eql_iface_int w c d Tryz.underlying38 (by kernel_rfl) Tryz.underlying27
theorem ygq (c d:Int) (w:World):
 Calls Tryz.prog 278 #[.iface 27 (.int .i64 c),.iface 27 (.int .i64 d),.bool true] w fun e w'=>e=.returned (.bool (decide (c=d)))∧w=w':=by
 have s1:=Tryz.asIsE;have s2:=Tryz.asUnE;have s3:=Tryz.asUmE;by_cases h:c=d
 · have hq:∀w:World,(binOp .eql 38 (.iface 27 (.int .i64 c)) (.iface 27 (.int .i64 d))).run Tryz.prog w=.ok (.bool true) w:=fun w=>by rw[zpw,decide_eq_true h]
   have He:=hid (decide_eq_true h);clear h;go_enter Tryz.func278,Tryz.ntmps278;go_wp2;refine wp_loop_rounds 1 ?_;rw[rounds_succ];go_wp2;go_ret;exact⟨by rw[He.out];rfl,rfl⟩
 · have hq:∀w:World,(binOp .eql 38 (.iface 27 (.int .i64 c)) (.iface 27 (.int .i64 d))).run Tryz.prog w=.ok (.bool false) w:=fun w=>by rw[zpw,decide_eq_false h]
   have He:=hid (decide_eq_false h);clear h;go_enter Tryz.func278,Tryz.ntmps278;go_wp2;refine wp_loop_rounds 1 ?_;rw[rounds_succ];go_wp2;go_ret;exact⟨by rw[He.out];rfl,rfl⟩
set_option maxRecDepth 20000 in
theorem ygr (c d:Int) (w:World):
 Calls Tryz.prog 232 #[.iface 27 (.int .i64 c),.iface 27 (.int .i64 d)] w fun e w'=>e=.returned (.bool (decide (c=d)))∧w=w':=by
 have hTO:=@run_callFunc_extern Tryz.prog 179 _ ReflectliteType.typeOf Tryz.func179 (by kernel_rfl) (by kernel_rfl) (by kernel_rfl) (by kernel_rfl);have hCm:=@run_callFunc_extern Tryz.prog 375 _ (ReflectliteType.method (fun t=>do Rtype.noPackHeld "Comparable" t;pure (.bool (←typeInfo t).comparable))) Tryz.func375 (by kernel_rfl) (by kernel_rfl) (by kernel_rfl) (by kernel_rfl);have tO:=Tryz.typeOfE;have mC:=Tryz.methodComparable;have cE:=Tryz.comparableE;have hC:=hid (ygq c d);go_enter Tryz.func232,Tryz.ntmps232;go_wp2_with fail;refine(hC.out _).mono ?_;rintro e w1 ⟨rfl,rfl⟩;go_wp2_with fail;go_ret;exact⟨rfl,rfl⟩
set_option maxRecDepth 20000 in
theorem ygs (d:Int) (w:World):Calls Tryz.prog 232 #[.nilIface,.iface 27 (.int .i64 d)] w fun e w'=>e=.returned (.bool false)∧w=w':=by
 have hq:∀w:World,(binOp .eql 38 .nilIface (.iface 27 (.int .i64 d))).run Tryz.prog w=.ok (.bool false) w:=fun w=>run_eql_iface_nil_left w 27 _ Tryz.underlying38
 go_enter Tryz.func232,Tryz.ntmps232;go_wp2;go_ret;exact⟨rfl,rfl⟩
theorem Tryz.asIsF (v:Value) (xT:TypeId) (w:World):(Instr.typeAssert (.iface 110 v) xT 400 true).run Tryz.prog w=.ok (.tuple #[.nilIface,.bool false]) w:=
 run_typeAssert_lacksB Tryz.underlying400 (by kernel_rfl) (by kernel_rfl) v xT w
theorem ygt (x:Value) (d:Int) (w:World):(binOp .eql 38 (.iface 110 x) (.iface 27 (.int .i64 d))).run Tryz.prog w=.ok (.bool false) w:=
 run_eql_iface_types 110 27 x _ Tryz.underlying38 (by decide) w
theorem ygu (c a d:Int) (w:World):
 Calls Tryz.prog 278 #[.iface 110 (.agg #[.int .i64 c,.int .i64 a]),.iface 27 (.int .i64 d),.bool true] w fun e w'=>e=.returned (.bool (decide (c=d)))∧Below w.heap.size w w':=by
 have s1:=Tryz.asIsE;have s2:=Tryz.asUnE;have s3:=Tryz.asUmE;have s4:=Tryz.asIsF;have s5:=Tryz.asUnF;have mU:=Tryz.methodUnF;have q1:=ygt (.agg #[.int .i64 c,.int .i64 a]) d;by_cases h:c=d
 · have hq:∀w:World,(binOp .eql 38 (.iface 27 (.int .i64 c)) (.iface 27 (.int .i64 d))).run Tryz.prog w=.ok (.bool true) w:=fun w=>by rw[zpw,decide_eq_true h]
   have He:=hid (decide_eq_true h);clear h;go_enter Tryz.func278,Tryz.ntmps278;go_wp2;refine wp_loop_rounds 2 ?_;rw[rounds_succ];go_wp2_with fail;refine(zk5 c a _).mono ?_;rintro e w' ⟨rfl,rfl⟩;go_wp2_with fail;rw[rounds_succ];go_wp2;go_ret;exact⟨by rw[He.out];rfl,(Below.refl _ _).alloc (Nat.le_refl _) _⟩
 · have hq:∀w:World,(binOp .eql 38 (.iface 27 (.int .i64 c)) (.iface 27 (.int .i64 d))).run Tryz.prog w=.ok (.bool false) w:=fun w=>by rw[zpw,decide_eq_false h]
   have He:=hid (decide_eq_false h);clear h;go_enter Tryz.func278,Tryz.ntmps278;go_wp2;refine wp_loop_rounds 2 ?_;rw[rounds_succ];go_wp2_with fail;refine(zk5 c a _).mono ?_;rintro e w' ⟨rfl,rfl⟩;go_wp2_with fail;rw[rounds_succ];go_wp2;go_ret;exact⟨by rw[He.out];rfl,(Below.refl _ _).alloc (Nat.le_refl _) _⟩
set_option maxRecDepth 20000 in
theorem ygv (c a d:Int) (w:World):
 Calls Tryz.prog 232 #[.iface 110 (.agg #[.int .i64 c,.int .i64 a]),.iface 27 (.int .i64 d)] w fun e w'=>e=.returned (.bool (decide (c=d)))∧Below w.heap.size w w':=by
 have hTO:=@run_callFunc_extern Tryz.prog 179 _ ReflectliteType.typeOf Tryz.func179 (by kernel_rfl) (by kernel_rfl) (by kernel_rfl) (by kernel_rfl);have hCm:=@run_callFunc_extern Tryz.prog 375 _ (ReflectliteType.method (fun t=>do Rtype.noPackHeld "Comparable" t;pure (.bool (←typeInfo t).comparable))) Tryz.func375 (by kernel_rfl) (by kernel_rfl) (by kernel_rfl) (by kernel_rfl);have tO:=Tryz.typeOfE;have mC:=Tryz.methodComparable;have cE:=Tryz.comparableE;have hC:=hid (ygu c a d);go_enter Tryz.func232,Tryz.ntmps232;go_wp2_with fail;refine(hC.out _).mono ?_;rintro e w1 ⟨rfl,hb⟩;have Hb:=hid hb;clear hb;go_wp2_with fail;go_ret;exact⟨rfl,Hb.out⟩
end
section
open Go.RowKit
def zja (x:Err) (d:Int):Bool:=match x with | none=>false | some y=>decide (y.1=d)
theorem ygw (x:Err) (d:Int) (w:World):Calls Tryz.prog 232 #[zy x,.iface 27 (.int .i64 d)] w fun e w'=>e=.returned (.bool (zja x d))∧Below w.heap.size w w':=by
 rcases x with _ | ⟨c,_ | a⟩
 · exact(ygs d w).mono fun e w' ⟨h1,h2⟩=>⟨h1,by subst h2;exact Below.refl _ _⟩
 · exact(ygr c d w).mono fun e w' ⟨h1,h2⟩=>⟨h1,by subst h2;exact Below.refl _ _⟩
 · exact ygv c a d w
theorem ygx (x:Err) (d:Int) (g:Nat) (w:World) (hg:w.cell? ⟨g,0,none⟩=some (.int .i64 d)):
 Calls Tryz.prog 162 #[zy x,.slice (some ⟨g,0,none⟩) 1 1] w fun e w'=>e=.returned (.bool (zja x d))∧Below w.heap.size w w':=by
 have HI:=hid (fun W=>ygw x d W);have Hc:=hid (fun W (h:Below w.heap.size w W)=>(h.cell (p:=⟨g,0,none⟩) (zf hg)).trans hg);generalize zy x=v at*;generalize zja x d=b at*;clear hg;go_enter Tryz.func162,Tryz.ntmps162;go_wp2;go_loopw [9] (fun i wr=>∃k:Nat,k≤1∧i=.int .i64 k∧Hid (Below w.heap.size w wr)∧Hid (k=1→b=false)) (fun i _=>1 - (intOf i).toNat)
 case atStart=>exact⟨0,by omega,rfl,hid (Below.refl _ _),fun h=>by cases h⟩
 case round=>
  obtain⟨k,hk,rfl,hb,he⟩:=hrel;have hq:=Hc.out _ hb.out;rcases(by omega:k=0∨k=1) with h0 | h1
  · have hd:decide ((k:Int)<1)=true:=by rw[decide_eq_true_iff];omega
    subst h0;go_wp2_with fail;refine(HI.out _).mono ?_;rintro e w1 ⟨rfl,hb1⟩;have Hb1:=hid (hb.out.trans (hb1.mono hb.out.size));clear hb1
    cases hbb:b with
    | true=>
     have Hbb:=hid hbb;clear hbb;go_wp2_with fail;go_ret
     exact⟨by rw[Hbb.out];rfl,Hb1.out⟩
    | false=>
     have Hbb:=hid hbb;clear hbb;go_wp2_with fail;go_roundw
     case rel=>exact⟨1,by omega,rfl,Hb1,fun _=>Hbb.out⟩
     case measure=>simp[intOf]
  · have hb0:=he.out h1;subst h1;have Hb0:=hid hb0;clear hb0;go_wp2_with fail;go_ret;exact⟨by rw[Hb0.out];rfl,hb.out⟩
theorem ygy (c a b:Nat) (w:World) (hD:Door w) (hab:a+b<9223372036854775808):
 Calls Tryz.prog 164 #[zaq c a,.int .i64 (b:Int)] w fun e w'=>e=.returned (zaq c (a+b))∧Below w.heap.size w w':=by
 have HD:=hid hD;have HC:=hid (fun W (h:Below w.heap.size w W)=>zcy (some ((c:Int),some (a:Int))) W (hD.below (Nat.le_refl _) h));have hs:IntKind.i64.wrap ((a:Int)+(b:Int))=((a+b:Nat):Int):=by rw[IntKind.wrap_i64];omega
 clear hD hab;unfold zaq;simp only[zy,je] at HC;go_enter Tryz.func164,Tryz.ntmps164;go_wp2_with fail;refine(zwq (c:Int) (a:Int) _ HD.out).mono ?_;rintro e w1 ⟨rfl,hb1⟩;have hb2:=hb1.trans ((Below.refl w1.heap.size w1).alloc (Nat.le_refl _) (.cells #[.int .i64 (c:Int),.int .i64 (a:Int)] 110) |>.mono hb1.size);have Hb2:=hid hb2;clear hb1 hb2;go_wp2_with fail;have Hq:=hid (fun W (h:Below (w1.alloc (.cells #[.int .i64 (c:Int),.int .i64 (a:Int)] 110)).heap.size (w1.alloc (.cells #[.int .i64 (c:Int),.int .i64 (a:Int)] 110)) W)=>show W.cell? ⟨w1.heap.size,1,none⟩=some (.int .i64 (a:Int)) from(h.cell (p:=⟨w1.heap.size,1,none⟩) (by simp)).trans (by go_simp));generalize w1.alloc (.cells #[.int .i64 (c:Int),.int .i64 (a:Int)] 110)=w2 at*;refine jl (by kernel_rfl) (by kernel_rfl) ?_
 repeat (go_big_quiet_step ((intro hw;first
  | rfl
  | (go_at_call 31;exact jt hw (HC.out _ (Hb2.out.trans (hw.mono Hb2.out.size))))
  | (have q0:=Hq.out _ hw
     go_simp;first | rfl | exact⟨rfl,hw⟩ | (trace_state;fail)))))
 refine wpQuiet_nil ?_;intro w3 hb3;have Hb3:=hid (Hb2.out.trans (hb3.mono Hb2.out.size));clear hb3;go_wp2_with fail;go_ret;exact⟨rfl,Hb3.out⟩
end
section
theorem ygz {l:List Nat} {L:zc} {p o:Nat} (h:qo l L p=.error (0,o)):o=p:=by
 unfold qo at h
 cases hh:jy l p L.1 with
 | error e=>
  rw[hh] at h;simp only at h;split at h
  · injection h with h;injection h with _ h;exact h.symm
  · injection h with h;subst h;rcases zs5 hh with h | ⟨h,-⟩ | ⟨h,-⟩ | ⟨h | h,-⟩
    · cases h
    · cases h
    · cases h
    · cases h
    · cases h
 | ok y=>
  rw[hh] at h;simp only at h;split at h
  · split at h
    · injection h with h;injection h with _ h;exact h.symm
    · rename_i hne;injection h with h;rw[h] at hne;exact absurd rfl hne
  · split at h
    · injection h with h;injection h with _ h;exact h.symm
    · split at h
      · cases h
      · injection h with h;injection h with h _;cases h
end
section
open Go.RowKit
attribute [local go_sem] y9 Tryz.eqGuard_if
def zjb (r:RR Kno) (e:Ending) (w':World):Prop:=match r with
 | .error x=>e=.returned (.tuple #[.slice none 0 0,.int .i64 0,if x.1=0 then .nilIface else zaq x.1 x.2])
 | .ok y=>∃K,e=.returned (.tuple #[K,.int .i64 (y.2:Nat),.nilIface])∧KnoS w' K y.1
theorem z2i {B:Nat} {a w:World} (h:Below B a w) (q:Nat):Below B a (w.drewN q):=⟨h.os,h.tape,h.output,h.size,h.block⟩
theorem yg0 {α:Type} (l:List α) (z:α):(List.range l.length).map (fun i=>l.getD i z)=l:=by
 refine List.ext_getElem (by simp) fun i h1 h2=>?_
 simp[List.getD_eq_getElem?_getD,h2]
theorem yg1 (a:Act) (hs:a.tmps.size=121) (hd:a.defers=[]):∃f:Nat→Value,a={ tmps:=⟨(List.range 121).map f⟩,defers:=[] }:=by
 obtain⟨⟨l⟩,d⟩:=a;have hs:l.length=121:=hs;have hd:d=[]:=hd;subst hd;refine⟨fun i=>l.getD i undef,?_⟩;have h:(List.range 121).map (fun i=>l.getD i undef)=l:=by rw[←hs];exact yg0 l undef
 exact congrArg (fun x=>({ tmps:=⟨x⟩,defers:=[] }:Act)) h.symm
theorem zh5 {l:Nat} {J:Act→World→Prop} {Q:Exit→Act→World→Prop} {a:Act} {w:World} (h:Q .ret a w):Exit.jump l J Q .ret a w:=h
def yg2 (r:RR Kno) (p B:Nat) (w:World) (a:Act) (w':World):Prop:=a.tmps.size=121∧a.defers=[]∧r=.error (0,p)∧Below B w w'
theorem z2j {l:List Nat} {st k pc:Nat}:(l.take (st+k)).drop (st+pc)=((l.drop st).take (min k (l.length - st))).drop pc:=by
 rw[←List.drop_drop,List.drop_take,show st+k - st=k by omega];congr 1;by_cases h:k≤l.length - st
 · rw[Nat.min_eq_left h]
 · rw[Nat.min_eq_right (by omega),List.take_of_length_le (by rw[List.length_drop];omega),List.take_of_length_le (by rw[List.length_drop];omega)]
theorem yg3 {l:List Nat} {st k pc c:Nat} (h:ze l (st+k) (st+pc)=.error c):∃c':Nat,zcc ((l.drop st).take (min k (l.length - st))) pc=(0,0,some ((c':Int),some (pc:Int)))∧((c'=5∧c=if st+k≤l.length then 5 else 0)∨(c'=6∧c=6)):=by
 unfold ze at h;rw[z2j] at h;unfold zcc;generalize yf (((l.drop st).take (min k (l.length - st))).drop pc) 0 0=s at h;obtain⟨a,x,j⟩:=s;rcases a with _ | _ | _ | a
 · injection h with h;exact⟨5,rfl,.inl ⟨rfl,h.symm⟩⟩
 · cases h
 · injection h with h;exact⟨6,rfl,.inr ⟨rfl,h.symm⟩⟩
 · injection h with h;exact⟨5,rfl,.inl ⟨rfl,h.symm⟩⟩
theorem yg4 {l:List Nat} {st k pc x q:Nat} (h:ze l (st+k) (st+pc)=.ok (x,q)):∃j,q=st+j∧zcc ((l.drop st).take (min k (l.length - st))) pc=(x,j,none):=by
 unfold ze at h;rw[z2j] at h;unfold zcc;generalize yf (((l.drop st).take (min k (l.length - st))).drop pc) 0 0=s at h;obtain⟨a,y,j⟩:=s;rcases a with _ | _ | _ | a
 · cases h
 · injection h with h;injection h with h1 h2;subst h1 h2;exact⟨pc+j,by omega,rfl⟩
 · cases h
 · cases h
set_option maxRecDepth 20000 in
theorem yg5 (a:Option Addr) (n cap p:Nat) (l:List Nat) (L:zc) (w:World) (hB:Byts w a n cap l) (hD:Door w) (hL:LimsI L) (hn:n≤900000000000) (hp:p≤n):
 Calls Tryz.prog 103 #[.slice a n cap,.int .i64 p,lmV L] w fun e w'=>zjb (qo l L p) e w'∧Below w.heap.size w w':=by
 have HH:=hid (fun W (h:Below w.heap.size w W)=>zpv a n cap p L.1 l W (hD.below (Nat.le_refl _) h) (hB.below h) hp (by omega) hL.1.1 hL.1.2);rw[zs4] at HH;have HX0:=hid (fun x g W (h:W.cell? ⟨g,0,none⟩=some (.int .i64 5))=>ygx x 5 g W h);obtain⟨r,hr⟩:∃r,r=qo l L p:=⟨_,rfl⟩;rw[←hr];unfold lmV;have Hb0:=hid ((Below.refl w.heap.size w).alloc (Nat.le_refl _) (.cells #[.int .i64 L.1,.int .i64 L.2.1,.int .i64 L.2.2.1,.int .i64 L.2.2.2.1,.int .i64 L.2.2.2.2] 24));have HG:=hid (y7 w 24 [.int .i64 L.1,.int .i64 L.2.1,.int .i64 L.2.2.1,.int .i64 L.2.2.2.1,.int .i64 L.2.2.2.2]);obtain⟨B,hBw⟩:∃B,w.heap.size=B:=⟨_,rfl⟩;go_enter Tryz.func103,Tryz.ntmps103;go_upto_region 1 with fail
 generalize w.alloc (.cells #[.int .i64 L.1,.int .i64 L.2.1,.int .i64 L.2.2.1,.int .i64 L.2.2.2.1,.int .i64 L.2.2.2.2] 24)=w0 at*;have Hs0:=hid Hb0.out.size;simp only[hBw] at HH Hb0 HG Hs0 ⊢;have c0:=HG.out.cell 0 rfl;have c1:=HG.out.cell 1 rfl;refine wp_scope_jumps 0 (yg2 r p B w) (fun _ _=>0) rfl ?_ ?_
 · cases hh:jy l p L.1 with
   | error x=>
    rw[hh] at HH;simp only[zy] at HH;have HX:=hid (HX0.out (some ((x.1:Int),some (x.2:Int))));simp only[zy,zja] at HX;go_wp2_with fail;refine(HH.out _ Hb0.out).mono ?_;rintro e w1 ⟨rfl,hb1⟩;have Hb1:=hid (Hb0.out.trans (hb1.mono Hs0.out));have Hs1:=hid (Nat.le_trans Hs0.out hb1.size);clear hb1 HH;go_wp2_with fail;have hbA:=(Below.refl w1.heap.size w1).alloc (Nat.le_refl _) (.cells #[.int .i64 5] 27);refine(HX.out _ _ ((y7 w1 27 [.int .i64 5]).cell 0 rfl)).mono ?_;rintro e w2 ⟨rfl,hb2⟩;have Hb2:=hid (Hb1.out.trans ((hbA.trans (hb2.mono (by simp))).mono Hs1.out));clear hb2 hbA;by_cases h5:x.1=5
    · have hd:decide ((x.1:Int)=5)=true:=by rw[decide_eq_true_iff];omega
      have Hres:=hid (show r=.error (0,p) from by rw[hr];unfold qo;rw[hh];simp only;rw[if_pos h5]);clear h5;go_wp2_with fail;refine zh5 ?_;go_ret3
      exact⟨by rw[Hres.out];rfl,by rw[hBw];exact Hb2.out⟩
    · have hd:decide ((x.1:Int)=5)=false:=by rw[decide_eq_false_iff_not];omega
      have Hres:=hid (show r=.error x from by rw[hr];unfold qo;rw[hh];simp only;rw[if_neg h5]);have Hx0:=hid (show ¬x.1=0 from by rcases zs5 hh with e | ⟨e,-⟩ | ⟨e,-⟩ | ⟨e | e,-⟩ <;> simp[e]);clear h5;go_wp2_with fail;refine zh5 ?_;go_ret3
      exact⟨by rw[Hres.out];unfold zjb;simp only;rw[if_neg Hx0.out];rfl,by rw[hBw];exact Hb2.out⟩
   | ok y=>
    obtain⟨st,k⟩:=y;rw[hh] at HH;simp only[zy] at HH;have HX:=hid (HX0.out none);simp only[zy,zja] at HX;have hok:=zfd hB.lt hh;have hlen:=hB.len;have hmx:k≤9223372036854775807:=by have:=hok.2.2.2.1;have:=hL.1.2;omega
    have h1:st≤n:=by omega
    obtain⟨hv,hhv⟩:∃hv,hv=min k (l.length - st):=⟨_,rfl⟩;have hvn:st+hv≤n:=by omega
    have hsub:IntKind.i64.wrap ((n:Int) - (st:Int))=((n - st:Nat):Int):=by rw[IntKind.wrap_i64];omega
    have hmin:min (k:Int) ((n - st:Nat):Int)=(hv:Int):=by omega
    have hPay:Byts w (zed a st cap) hv (cap - st) ((l.drop st).take hv):=by
     have:=zo9 hB (s:=st) (e:=st+hv) (by omega) hvn;rw[show st+hv - st=hv by omega] at this;exact this
    obtain⟨pa,hpa⟩:∃pa,zed a st cap=pa:=⟨_,rfl⟩;rw[hpa] at hPay;unfold zed at hpa;have hpa1:(if cap=st then a else a.map fun x=>x.add (st*1))=pa:=by rw[Nat.mul_one];exact hpa
    have hadd:IntKind.i64.wrap ((st:Int)+(hv:Int))=((st+hv:Nat):Int):=by rw[IntKind.wrap_i64];omega
    have hes:st+hv - st=hv:=by omega
    have hec:st+hv≤cap:=by have:=hB.room;omega
    have Hdat:=hid (show hv=min k (l.length - st)∧st+hv≤n∧st≤n∧n=l.length∧n≤900000000000∧k≤9223372036854775807 from⟨hhv,hvn,h1,hlen.symm,hn,hmx⟩);have HPay:=hid hPay;clear hok hlen hmx h1 hvn hPay hhv;go_wp2_with fail;refine(HH.out _ Hb0.out).mono ?_;rintro e w1 ⟨rfl,hb1⟩;have Hb1:=hid (Hb0.out.trans (hb1.mono Hs0.out));have Hs1:=hid (Nat.le_trans Hs0.out hb1.size);clear HH;go_wp2_with fail;have hbA:=(Below.refl w1.heap.size w1).alloc (Nat.le_refl _) (.cells #[.int .i64 5] 27);refine(HX.out _ _ ((y7 w1 27 [.int .i64 5]).cell 0 rfl)).mono ?_;rintro e w2 ⟨rfl,hb2⟩;have Hb2:=hid (Hb1.out.trans ((hbA.trans (hb2.mono (by simp))).mono Hs1.out));have HG2:=hid ((HG.out.later hb1).later (hbA.trans (hb2.mono (by simp))));have Hs2:=hid (Nat.le_trans Hs1.out (hbA.trans (hb2.mono (by simp))).size);have l0:=HG2.out.cell 0 rfl;have l1:=HG2.out.cell 1 rfl;have l2:=HG2.out.cell 2 rfl;have l3:=HG2.out.cell 3 rfl;have l4:=HG2.out.cell 4 rfl;clear hb1 hb2 hbA c0 c1;go_wp2_with fail;clear hpa hpa1 hes hec hadd hmin l0 l1 l2 l3 l4 HX;have HBg:=hid (fun W=>zo3 L W);unfold lmV at HBg;refine(HBg.out _).mono ?_;rintro e w3 ⟨R,rfl,hR,hb3⟩;have Hb3:=hid (Hb2.out.trans (hb3.mono Hs2.out));obtain⟨base,hbase⟩:∃base,w2.heap.size=base:=⟨_,rfl⟩;rw[hbase] at hR hb3;have Hs3:=hid (show B≤base from hbase ▸ Hs2.out);have HR:=hid hR;clear hR hb3 HBg HG HG2 hbase;have HDw:=hid (fun W (h:Below B w W)=>hD.below (Nat.le_refl _) (hBw.symm ▸ h));have HBw:=hid (fun W (h:Below B w W)=>HPay.out.below (hBw.symm ▸ h));have HB2:=hid (fun W (h:Below B w W)=>hB.below (hBw.symm ▸ h));have HLI:=hid hL;have Hgl:=hid (show 0<base from by have:=zf (p:=⟨0,0,none⟩) hD;have:=Hs3.out;omega);have Hl:=hid hB.lt;have Hhd:=hid hh;have Hhok:=hid (zfd hB.lt hh);have Hr:=hid (show ∀e,jc (ze l (st+k)) (st+k) L st=.error e→r=if e.1=0 then .error (0,p) else .error e from fun e he=>by rw[hr];exact zhw hh he);clear hD hL hh;go_wp2_with fail;go_step3
    go_wp2_with fail;go_loopw [15] (fun i wr=>∃(pc:Nat) (s:WS),i=.int .i64 pc∧Hid (Below B w wr)∧Hid (WkR wr base R L s)∧Hid (RdO L l st k s pc)) (fun i _=>hv - (intOf i).toNat)
    case atStart=>exact⟨0,ws0,rfl,Hb3,HR,hid RdO.start⟩
    case round=>
     obtain⟨pc,s,rfl,hb,hR,hI⟩:=hrel;have Hsr:=hid (show B≤wr.heap.size from hBw ▸ hb.out.size);have hrd:=zt0 pa hv (cap - st) pc _ wr (HBw.out _ hb.out) (by have:=hI.out.pl;have:=Hdat.out.1;omega);rw[Hdat.out.1] at hrd
     cases htk:ze l (st+k) (st+pc) with
     | error c=>
      obtain⟨c',hrr,hcc⟩:=yg3 htk;rw[hrr] at hrd;have hrx:=Hr.out _ ((zgz hI.out.j hI.out.eq).1 _ htk);have HX:=hid (HX0.out (some ((c':Int),some (pc:Int))));simp only[zy,zja] at hrd HX;rw[←Hdat.out.1] at hrd;have Hrd:=hid hrd;have Hrx:=hid hrx;have Hcc:=hid hcc;clear hrd hrx hcc hrr htk;go_wp2_with fail;refine Hrd.out.mono ?_;rintro e w4 ⟨rfl,hb4⟩;have Hb4:=hid (hb.out.trans (hb4.mono Hsr.out));have Hs4:=hid (Nat.le_trans Hsr.out hb4.size);clear hb4;go_wp2_with fail;have hbA:=(Below.refl w4.heap.size w4).alloc (Nat.le_refl _) (.cells #[.int .i64 5] 27);refine(HX.out _ _ ((y7 w4 27 [.int .i64 5]).cell 0 rfl)).mono ?_;rintro e w5 ⟨rfl,hb5⟩;have Hb5:=hid (Hb4.out.trans ((hbA.trans (hb5.mono (by simp))).mono Hs4.out));have Hs5:=hid (Nat.le_trans Hs4.out (hbA.trans (hb5.mono (by simp))).size);clear hb5 hbA;by_cases hea:c'=5∧hv<k
      · have hd1:decide ((c':Int)=5)=true:=by rw[decide_eq_true_iff];omega
        have hd2:decide ((hv:Int)<(k:Int))=true:=by rw[decide_eq_true_iff];omega
        have hd3:decide (hv<k)=true:=by rw[decide_eq_true_iff];omega
        have Hres:=hid (show r=.error (0,p) from by
         rw[Hrx.out];have h:=Hdat.out;rcases Hcc.out with ⟨-,h1⟩ | ⟨h1,-⟩
         · have h2:c=0:=by rw[h1,if_neg (by omega)]
           rw[h2];exact if_pos rfl
         · omega)
        clear hea;go_wp2_with fail;go_step3
        exact⟨rfl,rfl,rfl,Hres.out,Hb5.out⟩
      · have hx:(decide ((c':Int)=5) && decide ((hv:Int)<(k:Int)))=false:=by rw[Bool.and_eq_false_iff,decide_eq_false_iff_not,decide_eq_false_iff_not];omega
        have hcn:c≠0∧c=c':=by
         have h:=Hdat.out;rcases Hcc.out with ⟨h1,h2⟩ | ⟨h1,h2⟩
         · rw[if_pos (by omega)] at h2;omega
         · omega
        have Hres:=hid (show r=.error (c',st+pc) from by rw[Hrx.out,if_neg hcn.1,hcn.2]);have Hc0:=hid (show c'≠0 from by omega);have HSh:=hid (ygy c' pc st w5 (HDw.out _ Hb5.out) (by have:=hI.out.pl;have:=Hdat.out;omega));unfold zaq at HSh;by_cases h5:c'=5
        · have hd1:decide ((c':Int)=5)=true:=by rw[decide_eq_true_iff];omega
          have hd2:decide ((hv:Int)<(k:Int))=false:=by rw[decide_eq_false_iff_not];omega
          have hd3:decide (hv<k)=false:=by rw[decide_eq_false_iff_not];omega
          clear hea hx hcn h5;go_wp2_with fail;refine HSh.out.mono ?_;rintro e w6 ⟨rfl,hb6⟩;have Hb6:=hid (Hb5.out.trans (hb6.mono Hs5.out));clear hb6;go_wp2_with fail;refine zh5 ?_;go_ret3
          exact⟨by rw[Hres.out];unfold zjb;simp only;rw[if_neg Hc0.out,Nat.add_comm st pc];rfl,by rw[hBw];exact Hb6.out⟩
        · have hd1:decide ((c':Int)=5)=false:=by rw[decide_eq_false_iff_not];omega
          clear hea hx hcn h5;go_wp2_with fail;refine HSh.out.mono ?_;rintro e w6 ⟨rfl,hb6⟩;have Hb6:=hid (Hb5.out.trans (hb6.mono Hs5.out));clear hb6;go_wp2_with fail;refine zh5 ?_;go_ret3
          exact⟨by rw[Hres.out];unfold zjb;simp only;rw[if_neg Hc0.out,Nat.add_comm st pc];rfl,by rw[hBw];exact Hb6.out⟩
     | ok y=>
      obtain⟨x,q⟩:=y;obtain⟨j,rfl,hrr⟩:=yg4 htk;rw[hrr] at hrd;obtain⟨t1,t2,t3,t4,-⟩:=zap Hl.out htk;have t5:=(zap Hl.out htk).2.2.2.2;have hgo:=(zgz hI.out.j hI.out.eq).2 _ _ htk;have HX:=hid (HX0.out none);simp only[zy,zja] at hrd HX;rw[←Hdat.out.1] at hrd;have hso:=hI.out.j.ok (L:=L) (E:=st+k) (x:=x) (q:=st+j) HLI.out t4 (by omega) t3 (by have:=Hdat.out;omega) (by have:=Hdat.out;omega);have hnq:IntKind.i64.wrap ((k:Int) - (j:Int))=((st+k - (st+j):Nat):Int):=by have:=Hdat.out;rw[IntKind.wrap_i64];omega
      have hsp:IntKind.i64.wrap ((st:Int)+(pc:Int))=((st+pc:Nat):Int):=by have:=Hdat.out;have:=hI.out.pl;rw[IntKind.wrap_i64];omega
      have HPut:=hid (fun W (h1:Below B w W) (h2:WkR W base R L s)=>zo4 base R L s (st+k) x (st+pc) (st+j) W W (BelT.refl _ _) h2 (HDw.out _ h1) Hgl.out hso (fun s' h=>(zgs hI.out.j.inv hI.out.j.tag h).tag));have Hnx:=hid (fun s' h h4=>hI.out.next Hl.out htk (s':=s') h h4);obtain⟨res,hres⟩:∃res,jd (st+k) L s x (st+pc) (st+j)=res:=⟨_,rfl⟩;rw[hres] at hgo HPut Hnx;have Hfit:=hid (fun s' (h:res=.ok s')=>zlt hI.out.j.fit hI.out.j.inv hI.out.j.tag t4 t1 (hres.trans h));have Htag:=hid (fun s' (h:res=.ok s')=>(zgs hI.out.j.inv hI.out.j.tag (hres.trans h)).tag);have Hrd:=hid hrd;have Hgo:=hid hgo;have Hlt:=hid (show pc<j∧j≤hv from by have:=Hdat.out;omega);have hres0:=hid hres;clear hrd hgo hres hso hrr htk t1 t2 t3 t4 t5;go_wp2_with fail;refine Hrd.out.mono ?_;rintro e w4 ⟨rfl,hb4⟩;have Hb4:=hid (hb.out.trans (hb4.mono Hsr.out));have Hs4:=hid (Nat.le_trans Hsr.out hb4.size);have HR4:=hid (hR.out.later hb4);clear hb4;go_wp2_with fail;have hbA:=(Below.refl w4.heap.size w4).alloc (Nat.le_refl _) (.cells #[.int .i64 5] 27);refine(HX.out _ _ ((y7 w4 27 [.int .i64 5]).cell 0 rfl)).mono ?_;rintro e w5 ⟨rfl,hb5⟩;have hb5':=hbA.trans (hb5.mono (by simp));have Hb5:=hid (Hb4.out.trans (hb5'.mono Hs4.out));have HP:=hid (HPut.out w5 Hb5.out (HR4.out.later hb5'));clear hb5 hb5' hbA HPut;go_wp2_with fail;refine HP.out.mono ?_;rintro e w6 ⟨hb6,hr6⟩;have Hb6:=hid (Hb5.out.trans (hb6.bel.mono Hs3.out));clear hb6 HP
      cases res with
      | error y=>
       obtain⟨rfl,C,hC,hc9⟩:=hr6;have Hy0:=hid (z0p (fun lh le r c h=>zst h) hres0.out);have Hres:=hid (show r=.error y from by rw[Hr.out _ Hgo.out,if_neg Hy0.out]);clear hC hc9;unfold zaq;go_wp2_with fail;refine zh5 ?_;go_ret3
       exact⟨by rw[Hres.out];unfold zjb;simp only;rw[if_neg Hy0.out];rfl,by rw[hBw];exact Hb6.out⟩
      | ok s'=>
       obtain⟨rfl,hr6⟩:=hr6;by_cases h4:s'.tag=4
       · have hd:decide (s'.tag=4)=true:=decide_eq_true h4;have HK:=hid (fun W (h:Below w6.heap.size w6 W)=>z00 W base R L s' (hr6.later h) h4 (Hfit.out s' rfl).l);have Hcw:=hid (show zcb (ze l (st+k)) (st+k) L s' (st+j)=.ok (qj s'.vs s'.l s'.ix,st+j) by unfold zcb;simp only[h4]);have Hdec:=hid (show jc (ze l (st+k)) (st+k) L st=.ok (qj s'.vs s'.l s'.ix,st+j) from by rw[Hgo.out];exact Hcw.out);clear hr6 h4 Hcw Hgo;have hE:=(zo1 Hl.out Hdec.out).2.1;have hd0:=Hdat.out;have hvk:hv=k:=by omega
         have hsub2:IntKind.i64.wrap (((n - st:Nat):Int) - (k:Int))=((n - st - k:Nat):Int):=by rw[IntKind.wrap_i64];omega
         by_cases hsh:l.length<st+k+4
         · have hd1:decide (((n - st - k:Nat):Int)<4)=true:=by rw[decide_eq_true_iff];omega
           have hd2:decide (n - st - k<4)=true:=by rw[decide_eq_true_iff];omega
           have Hres:=hid (show r=.error (0,p) from by rw[hr];unfold qo;rw[Hhd.out];simp only;rw[Hdec.out];simp only;rw[if_pos hsh]);clear hsh hE hd0 hvk HK;go_wp2_with fail;go_step3
           exact⟨rfl,rfl,rfl,Hres.out,Hb6.out⟩
         · have hd1:decide (((n - st - k:Nat):Int)<4)=false:=by rw[decide_eq_false_iff_not];omega
           have hd2:decide (n - st - k<4)=false:=by rw[decide_eq_false_iff_not];omega
           have hadd2:IntKind.i64.wrap ((st:Int)+(k:Int))=((st+k:Nat):Int):=by rw[IntKind.wrap_i64];omega
           have hadd3:IntKind.i64.wrap ((st:Int)+(k:Int)+4)=((st+k+4:Nat):Int):=by rw[IntKind.wrap_i64];omega
           obtain⟨b,hb⟩:∃b,b=decide (jo (sum ((l.drop st).take hv))=(l.drop (st+k)).take 4):=⟨_,rfl⟩
           have Hres:=hid (show r=if b=true then .ok (qj s'.vs s'.l s'.ix,st+k+4) else .error (14,st+k) from by
            rw[hr];unfold qo;rw[Hhd.out];simp only;rw[Hdec.out];simp only;rw[if_neg hsh,hb,hvk];split <;> rename_i h <;> simp[h])
           have hrm:=(HB2.out _ Hb6.out).room
           have HSm:=hid (fun W (h:Below B w W)=>show Byts W (a.map fun x=>x.add (st+k)) 4 (cap - (st+k)) ((l.drop (st+k)).take 4) from by
            have:=zo9 (HB2.out W h) (s:=st+k) (e:=st+k+4) (by omega) (by omega);unfold zed at this;rw[show st+k+4 - (st+k)=4 by omega,if_neg (by omega)] at this;exact this)
           have hes:st+k+4 - (st+k)=4:=by omega
           have hec:st+k+4≤cap:=by omega
           have hlt:=(HPay.out).lt;have Hslt:=hid (show sum ((l.drop st).take hv)<4294967296 from not_lt (zi2 (by omega) hlt));have Hbb:=hid hb;clear hsh hE hd0 hvk hb hlt hrm;go_wp2_with fail;refine(zoy _ _ _ _ _ (HBw.out _ Hb6.out)).mono ?_;rintro e w7 ⟨rfl,hb7⟩;have Hs6:=hid (show B≤w6.heap.size from hBw ▸ Hb6.out.size);have Hb67:=hid hb7;have Hb7:=hid (Hb6.out.trans (hb7.mono Hs6.out));clear hb7;go_wp2_with fail;refine(zox (.slice none 0 0) 0 w7.heap.size [] _ _ Hslt.out (World.ownsRow_nil _ _ _ _) (Nat.le_refl _) (by omega)).mono ?_;rintro e w8 ⟨v8,rfl,ho8,hg8⟩;have hb8:=zfs (Below.refl w7.heap.size w7) hg8;obtain⟨a8,c8,rfl,hB8⟩:=zbk (l:=jo (sum ((l.drop st).take hv))) ho8 (zht Hslt.out);have Hb68:=hid (Hb67.out.trans (hb8.mono Hb67.out.size));have Hb8:=hid (Hb6.out.trans (Hb68.out.mono Hs6.out));have HB8:=hid hB8;clear hB8 ho8 hg8 hb8 Hb67;go_wp2_with fail;refine(zi9 _ _ _ _ _ _ _ _ _ HB8.out (HSm.out _ Hb8.out) b Hbb.out).mono ?_;rintro e w9 ⟨rfl,q9,rfl⟩;have Hb9:=hid (z2i Hb8.out q9);have Hb69:=hid (z2i Hb68.out q9);generalize w8.drewN q9=w9 at*;cases b
           · go_wp2_with fail;refine(zdk (c:=14) (o:=st+k) (by decide) _).mono ?_;rintro e w10 ⟨rfl,rfl⟩;unfold zaq;go_wp2_with fail;refine zh5 ?_;go_ret3
             exact⟨by rw[Hres.out];rfl,by rw[hBw];exact Hb9.out⟩
           · go_wp2_with fail;refine(HK.out _ Hb69.out).mono ?_;rintro e w10 ⟨⟨K,rfl,hK⟩,hb10⟩;have Hb10:=hid (Hb9.out.trans (hb10.mono (by have:=Hb69.out.size;have:=Hs6.out;omega)));have HKn:=hid hK;clear hK hb10;go_wp2_with fail;refine zh5 ?_;go_ret3
             exact⟨by rw[Hres.out];exact⟨K,rfl,HKn.out⟩,by rw[hBw];exact Hb10.out⟩
       · have hd:decide (s'.tag=4)=false:=decide_eq_false h4;have HN:=hid (Hnx.out s' rfl (by have:=Htag.out s' rfl;omega));have HR6:=hid hr6;clear hr6 h4;go_wp2_with fail;go_roundw
         case rel=>exact⟨j,s',rfl,Hb6,HR6,HN⟩
         case measure=>have:=Hlt.out;simp[intOf];omega
 · intro a1 w1 ⟨h1,h2,h3,h4⟩;obtain⟨f,rfl⟩:=yg1 a1 h1 h2;have H3:=hid h3;have H4:=hid h4;clear h1 h2 h3 h4 HH HX0;simp only[List.range,List.range.loop,List.map];go_wp2;refine zh5 ?_;go_ret3
   exact⟨by rw[H3.out];rfl,by rw[hBw];exact H4.out⟩
end
section
open Go.RowKit
attribute [local go_sem] y9 Tryz.eqGuard_if
theorem z2k {P:Program} {fn:Func} {t u p:Tmp} {ty:TypeId} (h:fn.results= #[.tmp t,.tmp u,.cell p ty]) (tmps:Array Value) (w:World) (g:Nat) (t':TypeId) (cs:Array Value) (fr:Nat×Nat) (d:TypeDesc)
 (hp:tmps.getD p undef=.pointer (some ⟨g,0,none⟩)) (hg:w.heap[g]?=some (.cells cs t' fr))
 (hu:P.underlying ty=some d) (hd:(match d with | .struct _ | .array _ _=>true | _=>false)=true) (hi:(P.info? ty).map (·.size)=some cs.size):
 (results fn tmps).run P w=.ok (.tuple #[tmps.getD t undef,tmps.getD u undef,.agg cs]) w:=by
 have hp':tmps[p]?.getD undef=.pointer (some ⟨g,0,none⟩):=by simpa using hp
 have hl:=run_loadVar_row (P:=P) w g t' ty cs fr d hg hu hd hi;have ha:(asAddr (tmps[p]?.getD undef)).run P w=.ok (⟨g,0,none⟩:Addr) w:=by rw[hp'];rfl
 clear hp hp' hg hu hd hi;simp only[results,h];simp[Sem.run_bind,Result.andThen,ha,hl]
theorem yg6 {P:Program} {fn:Func} {t p:Tmp} {ty:TypeId} (h:fn.results= #[.tmp t,.cell p ty]) (tmps:Array Value) (w:World) (g:Nat) (t':TypeId) (cs:Array Value) (fr:Nat×Nat) (d:TypeDesc)
 (hp:tmps.getD p undef=.pointer (some ⟨g,0,none⟩)) (hg:w.heap[g]?=some (.cells cs t' fr))
 (hu:P.underlying ty=some d) (hd:(match d with | .struct _ | .array _ _=>true | _=>false)=true) (hi:(P.info? ty).map (·.size)=some cs.size):
 (results fn tmps).run P w=.ok (.tuple #[tmps.getD t undef,.agg cs]) w:=by
 have hp':tmps[p]?.getD undef=.pointer (some ⟨g,0,none⟩):=by simpa using hp
 have hl:=run_loadVar_row (P:=P) w g t' ty cs fr d hg hu hd hi;have ha:(asAddr (tmps[p]?.getD undef)).run P w=.ok (⟨g,0,none⟩:Addr) w:=by rw[hp'];rfl
 clear hp hp' hg hu hd hi;simp only[results,h];simp[Sem.run_bind,Result.andThen,ha,hl]
def yg7 (l:List Nat) (L:zc) (base:Nat) (e:Ending) (w':World):Prop:=
 ∃ks es x V E,kq l L ks es x∧e=.returned (.tuple #[V,E,.agg #[.int .i64 (x.1:Nat),.int .i64 (x.2:Nat)]])∧KnosM w' base V ks∧w'.ownsRow base 3 1 E es.length (qi es)
set_option maxRecDepth 20000 in
theorem z2l (a:Option Addr) (n cap:Nat) (l:List Nat) (L:zc) (w:World) (hB:Byts w a n cap l) (hD:Door w) (hL:LimsI L) (hn:n≤900000000000):
 Calls Tryz.prog 61 #[.slice a n cap,lmV L] w fun e w'=>yg7 l L w.heap.size e w'∧Below w.heap.size w w':=by
 have HO:=hid (fun q W (h:Below w.heap.size w W) (hq:q≤n)=>yg5 a n cap q l L W (hB.below h) (hD.below (Nat.le_refl _) h) hL (by omega) hq);have HC:=hid (fun c o W (h:Below w.heap.size w W)=>zcy (some (((c:Nat):Int),some ((o:Nat):Int))) W (hD.below (Nat.le_refl _) h));have HA:=hid (fun c o W (h:Below w.heap.size w W)=>zjw (some (((c:Nat):Int),some ((o:Nat):Int))) W (hD.below (Nat.le_refl _) h));simp only[zy,je,j9] at HC HA;unfold lmV at HO ⊢;have Hl:=hid hB.lt;have Hlen:=hid hB.len;obtain⟨wB,hwB⟩:∃wB,wB=(w.alloc (.cells #[.int .i64 L.1,.int .i64 L.2.1,.int .i64 L.2.2.1,.int .i64 L.2.2.2.1,.int .i64 L.2.2.2.2] 24)).alloc (.cells #[.int .i64 0,.int .i64 0] 29):=⟨_,rfl⟩
 have HT0:=hid (show TwoM w wB (w.heap.size+2) (.slice none 0 0) (.slice none 0 0) [] [] from⟨by omega,by rw[hwB];simp,zl5 _ _,World.ownsRow_nil _ _ _ _,by
  rw[hwB];exact vg (vy w none) (((Below.refl _ w).alloc (Nat.le_refl _) _).alloc (by simp) _)⟩)
 have HG0:=hid (show Row wB w.heap.size 24 [.int .i64 L.1,.int .i64 L.2.1,.int .i64 L.2.2.1,.int .i64 L.2.2.2.1,.int .i64 L.2.2.2.2] from by rw[hwB];exact(y7 w _ _).later ((Below.refl _ _).alloc (Nat.le_refl _) _));have HV0:=hid (show Row wB (w.heap.size+1) 29 [.int .i64 0,.int .i64 0] from by rw[hwB];have:=y7 (w.alloc (.cells #[.int .i64 L.1,.int .i64 L.2.1,.int .i64 L.2.2.1,.int .i64 L.2.2.2.1,.int .i64 L.2.2.2.2] 24)) 29 [.int .i64 0,.int .i64 0];simpa using this);have HwB:=hid hwB;clear hwB hB hD hL;have Hn:=hid hn;clear hn;go_enter Tryz.func61,Tryz.ntmps61;go_upto_region 1 with fail
 rw[←HwB.out];go_wp2_with fail;go_loopw [7,8,9] (fun o E i wr=>∃(ks:List Kno) (es:List Nat) (q:Nat),i=.int .i64 q∧Hid (TwoM w wr (w.heap.size+2) o E ks es)∧Hid (Row wr w.heap.size 24 [.int .i64 L.1,.int .i64 L.2.1,.int .i64 L.2.2.1,.int .i64 L.2.2.2.1,.int .i64 L.2.2.2.2])∧Hid (Row wr (w.heap.size+1) 29 [.int .i64 0,.int .i64 0])∧Hid (zbv l L ks es 0 q∧q≤n)) (fun o E i _=>n - (intOf i).toNat)
 case atStart=>exact⟨[],[],0,rfl,HT0,HG0,HV0,hid ⟨rfl,Nat.zero_le _⟩⟩
 case round=>
  obtain⟨ks,es,q,rfl,hM,hG,hV,hI⟩:=hrel;have Hb:=hid (zfs (Below.refl _ _) hM.out.gr);have HO1:=hid (HO.out q wr Hb.out hI.out.2);have Hsz:=hid hM.out.gr.size;have l0:=hG.out.cell 0 rfl;have l1:=hG.out.cell 1 rfl;have l2:=hG.out.cell 2 rfl;have l3:=hG.out.cell 3 rfl;have l4:=hG.out.cell 4 rfl;go_wp2_with fail;refine HO1.out.mono ?_;rintro e w2 ⟨hr,hb2⟩;have HM2:=hid (hM.out.later hb2);have HG2:=hid (hG.out.later hb2);have HV2:=hid (hV.out.later hb2);have Hb2:=hid (Hb.out.trans (hb2.mono Hsz.out));have Hsz2:=hid HM2.out.gr.size;clear l0 l1 l2 l3 l4 hb2 HO1
  cases h1:qo l L q with
  | error x=>
   rw[h1] at hr;have hP:kq l L ks es x:=⟨q,hI.out.1,h1⟩;obtain⟨c,o⟩:=x;by_cases h0:c=0
   · subst h0;obtain rfl:=ygz h1;have HP:=hid hP;unfold zjb at hr;simp only[if_true] at hr;subst hr;have f0:=HV2.out.fz 0;have f1:=HV2.out.fz 1;have c0:=HV2.out.cell 0 rfl;have c1:=HV2.out.cell 1 rfl;have HVf:=hid ((HV2.out.set 0 (.int .i64 0)).set 1 (.int .i64 (o:Int)));have HMf:=hid ((HM2.out.put HV2.out (by rintro(h | h | h) <;> cases h) (by omega) (by omega) (i:=0) (.int .i64 0)).put (HV2.out.set 0 (.int .i64 0)) (by rintro(h | h | h) <;> cases h) (by omega) (by omega) (i:=1) (.int .i64 (o:Int)));clear h1 hP;go_wp2_with fail;refine bodyPost_ret (z2k rfl _ _ (w.heap.size+1) 29 #[.int .i64 0,.int .i64 (o:Int)] (0,0) _ rfl HVf.out Tryz.underlying29 rfl (by kernel_rfl)) rfl ?_;exact⟨⟨ks,es,(0,o),_,_,HP.out,rfl,HMf.out.kn.mono (by omega),qt HMf.out.en (by omega)⟩,zfs (Below.refl _ _) HMf.out.gr⟩
   · have HP:=hid hP;unfold zjb at hr;simp only[if_neg h0] at hr;subst hr;unfold zaq;clear h1 hP h0;go_wp2_with fail;refine(HC.out c o _ Hb2.out).mono ?_;rintro e w3 ⟨rfl,hb3⟩;have Hb3:=hid (Hb2.out.trans (hb3.mono Hsz2.out));have HM3:=hid (HM2.out.later hb3);have HV3:=hid (HV2.out.later hb3);have Hsz3:=hid HM3.out.gr.size;clear hb3;go_wp2_with fail;refine(HA.out c o _ Hb3.out).mono ?_;rintro e w4 ⟨rfl,hb4⟩;have HM4:=hid (HM3.out.later hb4);have HV4:=hid (HV3.out.later hb4);have f0:=HV4.out.fz 0;have f1:=HV4.out.fz 1;have c0:=HV4.out.cell 0 rfl;have c1:=HV4.out.cell 1 rfl;have HVf:=hid ((HV4.out.set 0 (.int .i64 (c:Int))).set 1 (.int .i64 (o:Int)));have HMf:=hid ((HM4.out.put HV4.out (by rintro(h | h | h) <;> cases h) (by omega) (by omega) (i:=0) (.int .i64 (c:Int))).put (HV4.out.set 0 (.int .i64 (c:Int))) (by rintro(h | h | h) <;> cases h) (by omega) (by omega) (i:=1) (.int .i64 (o:Int)));clear hb4;go_wp2_with fail;refine bodyPost_ret (z2k rfl _ _ (w.heap.size+1) 29 #[.int .i64 (c:Int),.int .i64 (o:Int)] (0,0) _ rfl HVf.out Tryz.underlying29 rfl (by kernel_rfl)) rfl ?_
     exact⟨⟨ks,es,(c,o),_,_,HP.out,rfl,HMf.out.kn.mono (by omega),qt HMf.out.en (by omega)⟩,zfs (Below.refl _ _) HMf.out.gr⟩
  | ok y=>
   obtain⟨k,q'⟩:=y;rw[h1] at hr;obtain⟨K,rfl,hK⟩:=hr;obtain⟨ka,kc,rfl,-⟩:=hK.frags;obtain⟨oa,oc,rfl⟩:=HM2.out.kn.slice;obtain⟨ea,ec,rfl⟩:=jh HM2.out.en;have hq:=zs6 Hl.out h1;have hlk:=zkd Hl.out hI.out.1;have hle:=zo8 hI.out.1;have hI2:=hid (show zbv l L (ks++[k]) (es++[q']) 0 q'∧q'≤n from⟨zo0 hI.out.1 h1,by have:=Hlen.out;omega⟩);have hne:((q':Int) == 0)=false:=by rw[beq_eq_false_iff_ne];omega
   have Hqq:=hid hq.1;obtain⟨o',w3,e1,E',w4,e2,hM4,hrow⟩:=HM2.out.push hK q' (by have:=hI.out.2;have:=Hn.out;omega) (by have:=hI.out.2;have:=Hn.out;omega);have HG4:=hid (hrow _ _ _ (by decide) (by decide) HG2.out);have HV4:=hid (hrow _ _ _ (by decide) (by decide) HV2.out);have HM4:=hid hM4;clear hrow hM4 hlk hle hK hq h1;go_wp2_with (first | (at_builtin;refine qf _ _ 26 rfl rfl _ _ rfl rfl _ _ e1 ?_) | (at_builtin;refine qf _ _ 79 rfl rfl _ _ rfl rfl _ _ e2 ?_));clear e1 e2;go_roundw
   case rel=>exact⟨ks++[k],es++[q'],q',rfl,HM4,HG4,HV4,hI2⟩
   case measure=>have:=Hqq.out;have:=hI2.out.2;simp[intOf];omega
end
section
open Go.RowKit
attribute [local go_sem] y9 Tryz.eqGuard_if
def yg8 (l:List Nat) (L:zc) (base:Nat) (e:Ending) (w':World):Prop:=
 ∃ks es x V,kq l L ks es x∧e=.returned (.tuple #[V,.agg #[.int .i64 (x.1:Nat),.int .i64 (x.2:Nat)]])∧KnosM w' base V ks
set_option maxRecDepth 20000 in
theorem zmg (a:Option Addr) (n cap:Nat) (l:List Nat) (L:zc) (w:World) (hB:Byts w a n cap l) (hD:Door w) (hL:LimsI L) (hn:n≤900000000000):
 Calls Tryz.prog 15 #[.slice a n cap,lmV L] w fun e w'=>yg8 l L w.heap.size e w'∧Below w.heap.size w w':=by
 have HO:=hid (fun W (h:Below w.heap.size w W)=>z2l a n cap l L W (hB.below h) (hD.below (Nat.le_refl _) h) hL hn);unfold lmV at HO ⊢;obtain⟨wB,hwB⟩:∃wB,wB=(w.alloc (.cells #[.int .i64 L.1,.int .i64 L.2.1,.int .i64 L.2.2.1,.int .i64 L.2.2.2.1,.int .i64 L.2.2.2.2] 24)).alloc (.cells #[.int .i64 0,.int .i64 0] 29):=⟨_,rfl⟩;have HbB:=hid (show Below w.heap.size w wB from by rw[hwB];exact((Below.refl _ w).alloc (Nat.le_refl _) _).alloc (by simp) _);have HG0:=hid (show Row wB w.heap.size 24 [.int .i64 L.1,.int .i64 L.2.1,.int .i64 L.2.2.1,.int .i64 L.2.2.2.1,.int .i64 L.2.2.2.2] from by rw[hwB];exact(y7 w _ _).later ((Below.refl _ _).alloc (Nat.le_refl _) _));have HV0:=hid (show Row wB (w.heap.size+1) 29 [.int .i64 0,.int .i64 0] from by rw[hwB];have:=y7 (w.alloc (.cells #[.int .i64 L.1,.int .i64 L.2.1,.int .i64 L.2.2.1,.int .i64 L.2.2.2.1,.int .i64 L.2.2.2.2] 24)) 29 [.int .i64 0,.int .i64 0];simpa using this);have HwB:=hid hwB;have l0:=HG0.out.cell 0 rfl;have l1:=HG0.out.cell 1 rfl;have l2:=HG0.out.cell 2 rfl;have l3:=HG0.out.cell 3 rfl;have l4:=HG0.out.cell 4 rfl;have Hgb:=hid HbB.out.size;clear hwB hB hD hL hn;go_enter Tryz.func15,Tryz.ntmps15;go_upto_region 1 with fail
 rw[←HwB.out];go_wp2_with fail;refine(HO.out _ HbB.out).mono ?_;rintro e w1 ⟨⟨ks,es,x,V,E,hP,rfl,hK,hE⟩,hb1⟩;have Hb1:=hid (HbB.out.trans (hb1.mono Hgb.out));have HV1:=hid (HV0.out.later hb1);have Hsz1:=hid (Nat.le_trans Hgb.out hb1.size);obtain⟨wC,hwC⟩:∃wC,wC=w1.alloc (.cells #[.int .i64 (x.1:Int),.int .i64 (x.2:Int)] 29):=⟨_,rfl⟩;have hbC:=(Below.refl w1.heap.size w1).alloc (Nat.le_refl _) (.cells #[.int .i64 (x.1:Int),.int .i64 (x.2:Int)] 29);rw[←hwC] at hbC;have HX:=hid (show Row wC w1.heap.size 29 [.int .i64 (x.1:Int),.int .i64 (x.2:Int)] from by rw[hwC];exact y7 w1 29 _);have HV2:=hid (HV1.out.later hbC);have HK2:=hid ((hK.mono Hgb.out).later hbC);have HbC:=hid (Hb1.out.trans (hbC.mono Hsz1.out));have HP:=hid hP;have HwC:=hid hwC;clear hwC hbC hb1 hK hE hP l0 l1 l2 l3 l4;go_upto_region 2 with fail
 rw[←HwC.out];have x0:=HX.out.cell 0 rfl;have x1:=HX.out.cell 1 rfl;have v0:=HV2.out.cell 0 rfl;have v1:=HV2.out.cell 1 rfl;have f0:=HV2.out.fz 0;have f1:=HV2.out.fz 1;have HVf:=hid ((HV2.out.set 0 (.int .i64 (x.1:Int))).set 1 (.int .i64 (x.2:Int)));have HKf:=hid ((HK2.out.put HV2.out (by rintro(h | h | h) <;> cases h) (by decide) (i:=0) (.int .i64 (x.1:Int))).put (HV2.out.set 0 (.int .i64 (x.1:Int))) (by rintro(h | h | h) <;> cases h) (by decide) (i:=1) (.int .i64 (x.2:Int)));have Hbf:=hid (zmf HbC.out (i:=0) (j:=1) (x:=.int .i64 (x.1:Int)) (y:=.int .i64 (x.2:Int)) (show w.heap.size≤w.heap.size+1 from Nat.le_succ _));go_region
 go_wp2_with fail;refine bodyPost_ret (yg6 rfl _ _ (w.heap.size+1) 29 #[.int .i64 (x.1:Int),.int .i64 (x.2:Int)] (0,0) _ rfl HVf.out Tryz.underlying29 rfl (by kernel_rfl)) rfl ?_;exact⟨⟨ks,es,x,V,HP.out,rfl,HKf.out.later (Below.refl _ _).drew⟩,Hbf.out.drew⟩
end
