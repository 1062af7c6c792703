/- Walks and laws, joined: Wb26. -/
import Derived.ChangeSame
import Derived.ChangeVars
import Derived.JoinedOf
import Derived.RowKit
import Derived.LaidLaws
import Derived.LaidHandle
import Derived.LaidSub
import Derived.LaidMore
import Derived.Lay
import Derived.HandedShaped
import Derived.Deep.DeepLaidRun
import Derived.Lib.LaidTab
import Derived.Stop.LaidErr
import Derived.Stop.Joined
import Derived.Deep.SlicePairs
import Derived.ProofKit
import Derived.OpenShut
import Derived.Test.YtdnjfnofjaoajaaGreatDoorWb24
set_option linter.unusedVariables false
set_option maxHeartbeats 16000000
namespace Go.Proofs.YtdnjfnofjaoajaaGreatDoor
open Lib (hid)
section
open Go.ChangeShapes Go.WideShapes Go.RowKit
abbrev LL:List (String×DataW Unit):=Rows.wireIsCanonicalRow.laid
theorem Lay.own:ownKnob Tryz.prog.godebug=none:=by kernel_rfl
theorem Lay.et:Tryz.prog.globalNamed "errors.errorType" =some 0:=by kernel_rfl
theorem Lay.rt:(Tryz.prog.cutTypes.find? (·.1 == "internal/reflectlite.rtype")).map (·.2)=some 227:=by kernel_rfl
theorem Lay.oneRow:((List.range 406).filter fun t=>Tryz.prog.rowNamed t [101,114,114,111,114])=[29]:=by kernel_rfl
theorem Lay.size:Tryz.prog.types.size=406:=by kernel_rfl
theorem zvt {W:World} (h':handlesMet Tryz.prog [("errors.errorType",Rows.laid_errors_errorType)] W):Door W:=by
 obtain⟨name,u,ty,e1,e2,e3,e4,e5⟩:=h' _ (List.mem_singleton.2 rfl);have en:name=[101,114,114,111,114]:=(Option.some.inj e1).symm;subst en;obtain rfl:=Option.some.inj (Lay.rt.symm.trans e2);have hm:ty∈(List.range 406).filter fun t=>Tryz.prog.rowNamed t [101,114,114,111,114]:=List.mem_filter.2 ⟨List.mem_range.2 (by rw[←Lay.size];exact e3),e4⟩
 rw[Lay.oneRow] at hm;obtain rfl:=List.mem_singleton.1 hm;have hh:typeHandle Tryz.prog 29=.pointer (some ⟨2,29,none⟩):=by kernel_rfl
 rw[hh] at e5;have:=World.var?_cell Lay.et e5 0;unfold Door;simpa using this
theorem z6d {W:World} (h:laidMetH Tryz.prog LL W):laidMet Tryz.prog (LL.filter fun x=>x.2.handleName?.isNone) W∧handlesMet Tryz.prog [("errors.errorType",Rows.laid_errors_errorType)] W:=h
theorem Lay.codes:(LL.filter fun x=>x.2.handleName?.isNone)=[("kenning/canon.codes",Lib.tabData .i64 [9,10,10,3])]:=by rfl
theorem z6e {W:World} (h:laidMet Tryz.prog (LL.filter fun x=>x.2.handleName?.isNone) W):Codes W:=by
 rw[Lay.codes] at h;have hg:Tryz.prog.globalNamed "kenning/canon.codes" =some 1:=by kernel_rfl
 have ht:=Lib.tabIs_of_head (g:=1) (t:=214) (e:=34) (n:=4) hg (by kernel_rfl) Tryz.underlying214 Tryz.underlying34 (by kernel_rfl) (by kernel_rfl) h;intro n hn;have:=ht.cell hg n (by simpa using hn);rcases(by omega:n=0∨n=1∨n=2∨n=3) with rfl | rfl | rfl | rfl
 · exact this
 · exact this
 · exact this
 · exact this
theorem z6f {W:World} (h:laidMetH Tryz.prog LL W) (hs:W.ShapedOpen Tryz.prog):Ready W:=by
 obtain⟨h1,h2⟩:=z6d h;exact⟨zvt h2,z6e h1⟩
noncomputable def zdr (os:Os):World:=World.doorLaid Tryz.prog 21 os
theorem z6g (os:Os) (args:Array Value):laidMetH Tryz.prog LL ((zdr os).forCall (fun _ _=>0) ⟨#[],args,[]⟩).memory:=
 laidMetH_of_parts (laidMet_of_run3 8 (by kernel_rfl) (by kernel_rfl) (by kernel_rfl)) (by kernel_rfl)
theorem zg4 (os:Os):(zdr os).os=os:=rfl
theorem zg5 (os:Os) (args:Array Value):((zdr os).forCall (fun _ _=>0) ⟨#[],args,[]⟩).Shaped Tryz.prog:=World.shaped_of_ZipB (by kernel_rfl) (by kernel_rfl)
theorem zg6 {H:Type} {enc:TypeId×Value→H} {a:Assume} {C:Checked} {os:Os} {f:FuncId} {fn:Func} {s:ChangeSpec} {conds:List PathCond} {apart fresh handsOn again:Bool} {X:World→Array Value→Prop}
 (hX:∀(w w':World) (args:Array Value),w.heap=w'.heap→X w args→X w' args)
 (own:ownKnob C.prog.godebug=none) (started:os.Started) (noInit:C.prog.inits.idxOf? f=none) (hfn:C.prog.funcs[f]?=some fn)
 (witness:∃(w:World) (tape:Tape) (i:Input),w.os=os∧(w.forCall tape i).Shaped C.prog∧i.vars=[]∧Input.okWide C.prog (w.forCall tape i) .any w.heap.size f i∧
   ((s.pre enc C.prog fn conds apart (w.forCall tape i).memory i.args∧X (w.forCall tape i).memory i.args)∧sizedMet enc C.prog fn (OpenSpec.ofChange s) apart (w.forCall tape i).memory i.args)∧a.holds C.prog (lone (Frame.enter C.prog f i.args .normal) [] (w.forCall tape i)))
 (contract:∀(W:World) (base:Nat) (args:Array Value) (ds gs:List (DataW H)) (before:List MemPlace),
   (∀(j:Nat) t v,fn.params[j]?=some t→args[j]?=some v→Value.okWide C.prog W .any base t v)→
   DataW.Whole enc C.prog fn.params.toList s.vars apart W args.toList ds gs before→
   conds.all (PathCond.test C.prog ⟨fn.params.toList,ds,s.plain.varTypes C.prog,gs⟩)=true→
   (DataW.weightsEach C.prog (fn.params.toList++s.plain.varTypes C.prog) (ds++gs)).all (· ≤reachBytes)=true→X W args→W.ShapedOpen C.prog→
   a.holds C.prog (lone (Frame.enter C.prog f args .normal) [] W)→
   Calls C.prog f args W fun e W'=>∃v,e=.returned v∧s.post enc C.prog fn apart fresh handsOn again W args v W'):
 ReturnsInHanded a C os f .any (fun w args=>(s.pre enc C.prog fn conds apart w args∧X w args)∧sizedMet enc C.prog fn (OpenSpec.ofChange s) apart w args) (s.post enc C.prog fn apart fresh handsOn again):=by
 refine returnsInHanded_of_calls own started noInit witness ?_;intro w tape i _ hsh _ hok hpre hholds;obtain⟨_,_,_,fn',hfn',_,_,_,_,hval⟩:=hok;have e:fn'=fn:=Option.some.inj (hfn'.symm.trans hfn);subst e;obtain⟨⟨⟨ds,gs,before,hw,hc⟩,hx⟩,hz⟩:=hpre;have hw':=DataW.Whole.of_heap (w':=w.forCall tape i) (by rfl) hw;refine(contract (w.forCall tape i) w.heap.size i.args ds gs before hval hw' hc (hz.weights hw) (hX _ _ _ (by rfl) hx) hsh hholds).mono fun e W' ⟨v,he,hp⟩=>?_
 subst he;exact ChangeSpec.post_blind hp
theorem zlo {z:Int} (h:(Lit.int .u64 z).wf=true):∃n:Nat,z=n∧n<18446744073709551616:=by
 have h':0≤z∧z≤18446744073709551615:=by
  simp[Lit.wf,IntKind.min,IntKind.max,IntKind.bits,IntKind.signed] at h;omega
 exact⟨z.toNat,by omega,by omega⟩
theorem ycv {z:Int} (h:(Lit.int .u8 z).wf=true):∃n:Nat,z=n∧n<256:=by
 have h':0≤z∧z≤255:=by
  simp[Lit.wf,IntKind.min,IntKind.max,IntKind.bits,IntKind.signed] at h;omega
 exact⟨z.toNat,by omega,by omega⟩
theorem zou {w:World} {b o d:Nat} {k:Option Nat} {v:Value} (h:w.cell? ((⟨b,o,k⟩:Addr).add (0*d))=some v):k=none:=by
 cases k with
 | none=>rfl
 | some j=>
  rw[Nat.zero_mul] at h;have hx:((⟨b,o,some j⟩:Addr).add 0)=⟨b,o,some j⟩:=rfl;rw[hx] at h;unfold World.cell? at h;split at h <;> simp at h
section
variable {H:Type} {enc:TypeId×Value→H} {W:World} {fuel:Nat} {x:DataW H×List MemPlace}
theorem z6h {P:Program} {base:Nat} {spare:Nat→Bool} {held:Bool} {t e:TypeId} {f0 f1 f2:Field} {cs:List Value} (ht:P.underlying t=some (.slice e)) (he:P.underlying e=some (.struct #[f0,f1,f2]))
 (ce:P.cellsOf e=3) (o0:f0.offset=0) (o1:f1.offset=1) (o2:f2.offset=2) (c0:P.cellsOf f0.type=1) (c1:P.cellsOf f1.type=1) (c2:P.cellsOf f2.type=1)
 (h:DataW.trod enc P W base spare held fuel t cs=some x):
 cs=[.slice none 0 0]∨∃(a:Addr) (len cap m n:Nat),cs=[.slice (some a) len cap]∧len≤cap∧cap≤maxLen∧m=(if spare a.block then cap else len)∧
  ∀i,i<m→∃v0 v1 v2 y0 y1 y2,W.cell? (a.add (i*3))=some v0∧W.cell? (a.add (i*3+1))=some v1∧W.cell? (a.add (i*3+2))=some v2∧
   DataW.trod enc P W base spare held n f0.type [v0]=some y0∧DataW.trod enc P W base spare held n f1.type [v1]=some y1∧DataW.trod enc P W base spare held n f2.type [v2]=some y2:=by
 rcases Deep.open_slice ht h with ⟨h0,-⟩ | ⟨a,len,cap,m,n,D,Pl,rfl,hb,hl,hm,hmm,rfl,hx⟩
 · exact Or.inl h0
 right;refine⟨a,len,cap,m,n - 1,rfl,hl,hm,hmm,fun i hi=>?_⟩;obtain⟨cs',h1,h2⟩:=hx i hi;rw[ce] at h1;obtain⟨_,hlen,hcell⟩:=World.cells?_some h1;obtain⟨xs,k,hk,hxy,_,hxl,hf⟩:=DataW.trod_struct he h2;have hk':k=n - 1:=by omega
 subst hk'
 match xs,hxl,cs',hlen with
 | [y0,y1,y2],_,[v0,v1,v2],_=>
  have g0:=hf 0 f0 rfl;have g1:=hf 1 f1 rfl;have g2:=hf 2 f2 rfl;simp[o0,o1,o2,c0,c1,c2] at g0 g1 g2;have e0:=hcell 0 (by omega);have e1:=hcell 1 (by omega);have e2:=hcell 2 (by omega);rw[Deep.add_add] at e0 e1 e2;exact⟨v0,v1,v2,y0,y1,y2,by simpa using e0,by simpa using e1,by simpa using e2,g0,g1,g2⟩
theorem zvu {v:Value} (h:DataW.trod enc Tryz.prog W 0 (fun _=>true) true fuel 81 [v]=some x):∃a n c l,v=.slice a n c∧Ivs W a n c l:=by
 rcases Deep.open_slice_pairs Tryz.underlying81 Tryz.underlying99 (by kernel_rfl) rfl rfl (by kernel_rfl) (by kernel_rfl) h with ⟨hcs,_⟩ | ⟨ad,len,cap,m,n,V0,V1,D0,D1,P0,P1,hcs,hb,hl,hm,hmm,hx,hc⟩
 · simp at hcs;subst hcs;exact⟨none,0,0,[],rfl,zgd _⟩
 · simp at hcs;subst hcs
   have each:∀i,i<m→∃s:Iv,W.cell? (ad.add (i*2))=some (.int .u64 ((s.1:Nat):Int))∧W.cell? (ad.add (i*2+1))=some (.int .u64 ((s.2:Nat):Int))∧s.1<18446744073709551616∧s.2<18446744073709551616:=by
    intro i hi;obtain⟨h1,h2,h3,h4⟩:=hc i hi;obtain⟨z0,e0,_,w0⟩:=DataW.trod_int Tryz.underlying52 h3;obtain⟨z1,e1,_,w1⟩:=DataW.trod_int Tryz.underlying52 h4;obtain⟨n0,rfl,l0⟩:=zlo w0;obtain⟨n1,rfl,l1⟩:=zlo w1;simp only[List.cons.injEq,and_true] at e0 e1;rw[e0] at h1;rw[e1] at h2;exact⟨(n0,n1),h1,h2,l0,l1⟩
   obtain⟨f,hf⟩:=Deep.choose_lt each;have hmc:m=cap:=by simpa using hmm
   refine⟨some ad,len,cap,(List.range len).map f,rfl,by simp,?_,hl,by unfold maxLen at hm;omega,(by intro h;cases h),fun hn=>?_⟩
   · intro s hs;obtain⟨i,hi,rfl⟩:=List.mem_map.1 hs;have hi':i<len:=List.mem_range.1 hi;exact(hf i (by omega)).2.2
   · obtain⟨b,o,k⟩:=ad;obtain rfl:k=none:=zou (hf 0 (by omega)).1;refine⟨b,o,rfl,fun i hi=>?_⟩;obtain⟨h1,h2,_,_⟩:=hf i (by omega);rw[yp] at h1 h2;have e:zb ((List.range len).map f) i=f i:=by rw[qf (by simpa using hi)];simp
     rw[e,Nat.add_assoc];exact⟨h1,h2⟩
theorem z6i {v:Value} (h:DataW.trod enc Tryz.prog W 0 (fun _=>true) true fuel 83 [v]=some x):∃a n c l,v=.slice a n c∧Ents W a n c l:=by
 rcases z6h Tryz.underlying83 Tryz.underlying101 (by kernel_rfl) rfl rfl rfl (by kernel_rfl) (by kernel_rfl) (by kernel_rfl) h with hcs | ⟨ad,len,cap,m,n,hcs,hl,hm,hmm,hc⟩
 · simp at hcs;subst hcs;exact⟨none,0,0,[],rfl,zrj _⟩
 · simp at hcs;subst hcs
   have each:∀i,i<m→∃e:Ent,W.cell? (ad.add (i*3))=some (.int .u64 ((e.1:Nat):Int))∧W.cell? (ad.add (i*3+1))=some (.int .u64 ((e.2.1:Nat):Int))∧LtE e∧
    ∃x k c,W.cell? (ad.add (i*3+2))=some (.slice x k c)∧Ivs W x k c e.2.2:=by
    intro i hi;obtain⟨v0,v1,v2,y0,y1,y2,h1,h2,h3,g0,g1,g2⟩:=hc i hi;obtain⟨z0,e0,_,w0⟩:=DataW.trod_int Tryz.underlying52 g0;obtain⟨z1,e1,_,w1⟩:=DataW.trod_int Tryz.underlying52 g1;obtain⟨a,k,c,l,rfl,hI⟩:=zvu g2;obtain⟨n0,rfl,l0⟩:=zlo w0;obtain⟨n1,rfl,l1⟩:=zlo w1;simp only[List.cons.injEq,and_true] at e0 e1;rw[e0] at h1;rw[e1] at h2;exact⟨(n0,n1,l),h1,h2,⟨l0,l1,hI.lt⟩,a,k,c,h3,hI⟩
   obtain⟨f,hf⟩:=Deep.choose_lt each;have hmc:m=cap:=by simpa using hmm
   refine⟨some ad,len,cap,(List.range len).map f,rfl,by simp,?_,hl,by unfold maxLen at hm;omega,(by intro h;cases h),fun hn=>?_⟩
   · intro s hs;obtain⟨i,hi,rfl⟩:=List.mem_map.1 hs;have hi':i<len:=List.mem_range.1 hi;exact(hf i (by omega)).2.2.1
   · obtain⟨b,o,k⟩:=ad;obtain rfl:k=none:=zou (hf 0 (by omega)).1;refine⟨b,o,rfl,fun i hi=>?_⟩;obtain⟨h1,h2,-,x,k,c,h3,h4⟩:=hf i (by omega);rw[yp] at h1 h2 h3;have e:zc ((List.range len).map f) i=f i:=by rw[qn (by simpa using hi)];simp
     rw[e,Nat.add_assoc,Nat.add_assoc];exact⟨h1,h2,x,k,c,h3,h4⟩
theorem zg7 {v:Value} (h:DataW.trod enc Tryz.prog W 0 (fun _=>true) true fuel 25 [v]=some x):∃a n c k,v=.slice a n c∧Frags W a n c k:=by
 rcases Deep.open_slice_pairs Tryz.underlying25 Tryz.underlying85 (by kernel_rfl) rfl rfl (by kernel_rfl) (by kernel_rfl) h with ⟨hcs,_⟩ | ⟨ad,len,cap,m,n,V0,V1,D0,D1,P0,P1,hcs,hb,hl,hm,hmm,hx,hc⟩
 · simp at hcs;subst hcs;exact⟨none,0,0,[],rfl,zkn _⟩
 · simp at hcs;subst hcs
   have each:∀i,i<m→∃f:Frg,IvCell W (ad.add (i*2)) f.1∧EnCell W (ad.add (i*2+1)) f.2:=by
    intro i hi;obtain⟨h1,h2,h3,h4⟩:=hc i hi;obtain⟨a,k,c,l,e0,hI⟩:=zvu h3;obtain⟨a',k',c',l',e1,hV⟩:=z6i h4;rw[e0] at h1;rw[e1] at h2;exact⟨(l,l'),⟨a,k,c,h1,hI⟩,⟨a',k',c',h2,hV⟩⟩
   obtain⟨f,hf⟩:=Deep.choose_lt each;have hmc:m=cap:=by simpa using hmm
   refine⟨some ad,len,cap,(List.range len).map f,rfl,by simp,hl,by unfold maxLen at hm;omega,(by intro h;cases h),fun hn=>?_⟩;obtain⟨b,o,k⟩:=ad
   obtain rfl:k=none:=by
    obtain⟨⟨_,_,_,h1,_⟩,_⟩:=hf 0 (by omega);exact zou h1
   refine⟨b,o,rfl,fun i hi=>?_⟩;obtain⟨h1,h2⟩:=hf i (by omega);rw[yp] at h1 h2;have e:za ((List.range len).map f) i=f i:=by rw[ym (by simpa using hi)];simp
   rw[e,Nat.add_assoc];exact⟨h1,h2⟩
end
end
section
open Go.RowKit
attribute [local go_sem] vq
structure HoleOut (base g n cap:Nat) (v:Vec) (r m:Nat) (h:List Iv) (W w':World) (gS cS:Nat) (S:Value):Prop where
 below:Below base W w'
 cell:w'.cell? ⟨g,n*3+2,none⟩=some S
 frozen:w'.frozen? ⟨g,n*3+2,none⟩=false
 row:∀g' T C,Row W g' T C→T≠99→Row w' g' T C
 fin:∀w2,w'.grownBy w2 none→EntO (w2.setCell ⟨g,n*3+2,none⟩ (.slice (some ⟨gS,0,none⟩) h.length cS)) base (.slice (some ⟨g,0,none⟩) (n+1) cap) v r m h
theorem z6j {w W:World} {ops:Array Oper} {o:Oper} {a:Act} {K:Act→World→Prop} {Q:Exit→Act→World→Prop} {E:Prop} (hgd:o.guard=none) (s x:Operand)
 (ho:o.op=.call { callee:=.builtin .append,args:= #[s,x],argTypes:= #[81,81] }) (hty:o.type=81)
 {base g n cap:Nat} {v:Vec} {r m:Nat} {h:List Iv} (hE:EntO w base (.slice (some ⟨g,0,none⟩) (n+1) cap) v r m h) (hn:n=v.length) {S:Value} (hS:w.cell? ⟨g,n*3+2,none⟩=some S) (t:Iv) (hW:Below w.heap.size w W)
 (hs:a.eval s=S) (A:Option Addr) (c:Nat) (hx:a.eval x=.slice A 1 c) (hr:Rd W 2 A 1 (ivC [t])) (hb:h.length+1≤1000000000000)
 (hK:∀gS cS w',HoleOut base g n cap v r m (h++[t]) w w' gS cS S→K (a.put o.dst (.slice (some ⟨gS,0,none⟩) (h++[t]).length cS)) w'):
 if Region.wanted o (yielded ops a.tmps)=true then Oper.wp Tryz.prog o a W K Q else E:=by
 subst hn;obtain⟨S',w',hrun,⟨gS,cS,rfl⟩,h1,h2,h3,h4,h5,h6,h7⟩:=hE.hole hS t W hW A c hr hb;refine zem hgd s x _ ho _ _ hs hx _ w' (by rw[hty];exact hrun) ?_;have e:(h++[t]).length=h.length+1:=by simp
 rw[←e]
 have hbw:base≤w.heap.size:=by
  obtain⟨_,_,_,q1,q2,-⟩:=hE.at
  omega
 refine hK gS cS w' ⟨(hW.mono hbw).trans h1,h3,h4,fun g' T C hR hT=>(hR.later hW).grown h5 fun e=>?_,fun w2 hw2=>by rw[e];exact h7 w2 hw2⟩;obtain⟨-,C',fr,hk⟩:=h6 g' e.symm;replace hR:=hR.later hW;unfold Row at hR;rw[hk] at hR;injection hR with hR;injection hR with _ hR _;exact hT hR.symm
set_option maxRecDepth 100000 in
theorem z6k (base g:Nat) (L:zt) (nx:Value) (s:PS) (x rest:Nat) (w:World) (h:PkR w base g L nx s) (ht:s.tag=5) (hx:x<18446744073709551616) (hF:PFit s 900000000000) (he:0<s.ents):
 Calls Tryz.prog 299 #[.pointer (some ⟨g,0,none⟩),.int .u64 (x:Int),.int .i64 (rest:Int)] w (PkS w base g L (qb L.2.2.1 L.2.2.2.1 s x rest)):=by
 have hps:qb L.2.2.1 L.2.2.2.1 s x rest=if s.lo+x<18446744073709551616∧s.lo+x<s.mx then .ok (vh s s.hls (s.h++[(s.lo,s.lo+x)])) else .error 8:=by
  unfold qb;rw[ht];rfl
 rw[hps];clear hps;obtain⟨hg,V,cu,hR,hB⟩:=h;obtain⟨hE,c,y,rfl,hbc,hy,hC⟩:EntO w base V s.v s.rep s.mx s.h∧CuAt w base cu (some s.lo) s.h:=by unfold PkB at hB;rw[ht] at hB;exact hB
 obtain rfl:=hy s.lo rfl;obtain⟨ge,cap,rfl,hge,hgl,⟨Cg,fr,hrow⟩,-,-,-,-⟩:=hE.at
 have HC:=hid (zt1 c 1 s.lo x s.h.getLast? w hC hF.lo hx);have HF:=hid hF;have q10:=hR.cell 10 rfl;have HR:=hid hR;have HE:=hid hE;have HCu:=hid hC;have Hne:=hid (hR.ne hC (by decide));have Hbw:=hid (show base≤w.heap.size by have:=hR.lt;omega);have He:=hid he;have hvl:s.v.length≤1000000000000:=by have:=hF.vl;omega
 have Hgg:=hid (show g≠ge from fun e=>by
  subst e;unfold Row at hR;rw[hrow] at hR;injection hR with hR;injection hR with _ hR _;cases hR)
 have Hcg:=hid (show c≠ge from fun e=>by
  subst e;unfold Row at hC;rw[hrow] at hC;injection hC with hC;injection hC with _ hC _;cases hC)
 clear hB hy hR hE hC hF hx he ht hrow;unfold ziq at HC;by_cases hlt:s.lo+x<18446744073709551616
 · have HC2:=hid (HC.out.mono fun e w' h=>by rw[if_pos hlt] at h;exact h);have Hlt:=hid hlt;have Hs:=hid (show zq [(s.lo,s.lo+x)] from zer HF.out.lo hlt);clear HC;obtain⟨n,hn⟩:∃n,n=s.v.length:=⟨_,rfl⟩;have Hn:=hid hn;rw[←hn] at hvl;clear hlt hn;generalize hz:s.lo+x=z at*;clear hz;by_cases hm:z<s.mx
   · rw[if_pos ⟨Hlt.out,hm⟩];have d1:decide ((s.mx:Int)≤(z:Int))=false:=by rw[decide_eq_false_iff_not];omega
     have d2:decide (s.mx≤z)=false:=by rw[decide_eq_false_iff_not];omega
     clear hm;go_enter Tryz.func299,Tryz.ntmps299;go_wp2_with fail;refine HC2.out.mono ?_;rintro e w1 ⟨rfl,hc1,hg1⟩;have hR1:=HR.out.grown hg1 (fun e=>Hne.out (by injection e));have hE1:=HE.out.grown (HCu.out.notT (by rintro(h | h | h) <;> cases h)) hg1;have Hb1:=hid ((Below.refl base w).grown hg1 Hbw.out (fun k hk=>by injection hk with hk;omega));have hbl:∀o,Below w1.heap.size w1 (w1.alloc o):=fun o=>(Below.refl _ _).alloc (Nat.le_refl _) _
     have q7:=fun o=>(hR1.later (hbl o)).cell 7 rfl
     obtain⟨ge',cap',e',-,-,-,c0,c1,cf,S,lim,cS,-⟩:=hE1.at
     have e2:ge'=ge:=by injection e' with e1;injection e1 with e1;injection e1 with e1;exact e1.symm
     subst e2;rw[←Hn.out] at c1 cS;have m1:∀o,(w1.alloc o).cell? ⟨ge',n*3+1,none⟩=some (.int .u64 ((s.mx:Nat):Int)):=fun o=>((hbl o).cell (p:=⟨ge',n*3+1,none⟩) (ze c1)).trans c1
     have HR1:=hid hR1;have HE1:=hid hE1;have Hc1:=hid hc1;clear hR1 hE1 hc1 hg1 e' c0 c1 cf cS hbl;rw[←Hn.out] at q7;unfold ivV;go_wp2_with fail;go_quiet ((go_at_call 270;exact Calls.quiet_of (zlj g ge' n cap _ (by exact q7 _) hvl)));obtain⟨w2,hw2⟩:∃w2,w2=w1.alloc (.cells #[.int .u64 ((s.lo:Nat):Int),.int .u64 ((z:Nat):Int)] 99):=⟨_,rfl⟩;have hb2:Below w1.heap.size w1 w2:=by rw[hw2];exact(Below.refl _ _).alloc (Nat.le_refl _) _
     have hX:Row w2 w1.heap.size 99 [.int .u64 ((s.lo:Nat):Int),.int .u64 ((z:Nat):Int)]:=by rw[hw2];exact zcd _ _ _
     rw[←hw2];clear hw2 q7 m1;have hR2:=HR1.out.later hb2;have hE2:=HE1.out.later hb2;have q7:w2.cell? ⟨g,7,none⟩=some (.slice (some ⟨ge',0,none⟩) (n+1) cap):=by have:=hR2.cell 7 rfl;rw[←Hn.out] at this;exact this
     have x0:=hX.cell 0 rfl;have x1:=hX.cell 1 rfl;have HX:=hid hX;have HR2:=hid hR2;have HE2:=hid hE2;have Hb2:=hid hb2;obtain⟨ge2,cap2,e',-,-,-,c0,c1,cf,S,lim,cS,-⟩:=hE2.at
     have e2:ge2=ge':=by injection e' with e1;injection e1 with e1;injection e1 with e1;exact e1.symm
     subst e2;rw[←Hn.out] at cS hE2;have hhl:s.h.length+1≤1000000000000:=by have:=HF.out.hl;omega
     have Hhl:=hid hhl;have q7o:∀k o,((w2.drewN k).alloc o).cell? ⟨g,7,none⟩=some (.slice (some ⟨ge2,0,none⟩) (n+1) cap):=fun k o=>((((Below.refl w2.heap.size w2)).alloc (Nat.le_refl _) o).cell (p:=⟨g,7,none⟩) (ze q7)).trans q7
     have cSo:∀k o,((w2.drewN k).alloc o).cell? ⟨ge2,n*3+2,none⟩=some S:=fun k o=>((((Below.refl w2.heap.size w2)).alloc (Nat.le_refl _) o).cell (p:=⟨ge2,n*3+2,none⟩) (ze cS)).trans cS
     clear hX hR2 hb2 e' c0 c1 cf hhl;go_wp2_with fail
     go_region_law (first
      | (go_simp;go_at_call 270;refine(zlj g ge2 n cap _ (by first | exact q7 | exact q7o _ _) hvl).mono ?_;rintro e w3 ⟨rfl,k,rfl⟩)
      | (refine z6j rfl (.tmp 38) (.tmp 40) rfl rfl hE2 Hn.out cS (s.lo,z) ?hW rfl _ _ rfl (yg (zg _ _ _ (by simp)) rfl rfl) Hhl.out ?_
         case hW=>repeat (first | exact Below.refl _ _ | refine Below.alloc ?_ (by simp) _ | refine Below.drew ?_ | refine ye ?_ _)
         intro gS cS w4 hO;have hq:=hO.cell;have hf:=hO.frozen;have HO:=hid hO;clear hO))
     all_goals go_wp2_with fail
     all_goals
      have hR4:=HO.out.row g _ _ HR2.out (by decide);have hC4:=HO.out.row c _ _ (Hc1.out.later Hb2.out) (by decide);have hfin:=HO.out.fin w4 (zgl _ _);have e9:(s.h++[(s.lo,z)]).length=s.h.length+1:=by simp
      rw[e9] at hfin;have hR5:=hR4.other (a:=⟨ge2,n*3+2,none⟩) Hgg.out (.slice (some ⟨gS,0,none⟩) (s.h.length+1) cS);have HC5:=hid (hC4.other (a:=⟨ge2,n*3+2,none⟩) Hcg.out (.slice (some ⟨gS,0,none⟩) (s.h.length+1) cS));have HB5:=hid ((((Hb1.out.trans (Hb2.out.mono (Nat.le_trans Hbw.out Hb1.out.size)))).trans HO.out.below).setCell (p:=⟨ge2,n*3+2,none⟩) hge (.slice (some ⟨gS,0,none⟩) (s.h.length+1) cS));have HH:=hid (zu4 g L nx _ _ s s.hls (s.h++[(s.lo,z)]) _ hR5 He.out HF.out.ents HF.out.hls);have HE5:=hid hfin;have HR5:=hid hR5;clear hR4 hC4 hfin e9 hR5 hq hf x0 x1 cSo q7o hE2 q10;refine HH.out.mono ?_;rintro e w6 ⟨rfl,hR6,hg6⟩;have HR6:=hid hR6;have hN:=HR5.out.notT (by rintro(h | h | h) <;> cases h);have HE6:=hid (HE5.out.grown hN hg6);have HC6:=hid (HC5.out.grown hg6 (fun e=>by injection e with e;exact Hne.out e.symm));have Hb6:=hid (HB5.out.grown hg6 (by have:=HB5.out.size;have:=Hbw.out;omega) (fun k hk=>by injection hk with hk;omega));clear hR6 hN hg6;generalize hnh:vh s s.hls (s.h++[(s.lo,z)])=s' at*;have Hnh:=hid hnh;clear hnh;generalize hF:pkF g s'.tag=F at*;have HF':=hid hF;clear hF;go_wp2_with fail;go_ret2;refine⟨Hb6.out,nx,by rw[HF'.out];rfl,hg,_,_,HR6.out,?_⟩;rw[←Hnh.out];refine zu5 (by rw[←Hn.out];exact HE6.out) ⟨c,s.lo,rfl,hbc,fun y h=>(by cases h),?_⟩ (fun t ht=>?_)
      · have e8:(s.h++[(s.lo,z)]).getLast?=some (s.lo,z):=by simp
        rw[e8];exact HC6.out
      · rcases List.mem_append.1 ht with h | h
        · exact HF.out.h t h
        · exact Hs.out t h
   · rw[if_neg (fun h=>hm h.2)];have d1:decide ((s.mx:Int)≤(z:Int))=true:=by rw[decide_eq_true_iff];omega
     have d2:decide (s.mx≤z)=true:=by rw[decide_eq_true_iff];omega
     clear hm;go_enter Tryz.func299,Tryz.ntmps299;go_wp2_with fail;refine HC2.out.mono ?_;rintro e w1 ⟨rfl,hc1,hg1⟩;have hR1:=HR.out.grown hg1 (fun e=>Hne.out (by injection e));have hE1:=HE.out.grown (HCu.out.notT (by rintro(h | h | h) <;> cases h)) hg1;have Hb1:=hid ((Below.refl base w).grown hg1 Hbw.out (fun k hk=>by injection hk with hk;omega));have hbl:∀o,Below w1.heap.size w1 (w1.alloc o):=fun o=>(Below.refl _ _).alloc (Nat.le_refl _) _
     have q7:=fun o=>(hR1.later (hbl o)).cell 7 rfl
     obtain⟨ge',cap',e',-,-,-,c0,c1,cf,S,lim,cS,-⟩:=hE1.at
     have e2:ge'=ge:=by injection e' with e1;injection e1 with e1;injection e1 with e1;exact e1.symm
     subst e2;rw[←Hn.out] at c1;have m1:∀o,(w1.alloc o).cell? ⟨ge',n*3+1,none⟩=some (.int .u64 ((s.mx:Nat):Int)):=fun o=>((hbl o).cell (p:=⟨ge',n*3+1,none⟩) (ze c1)).trans c1
     have HRf:=hid (fun o=>hR1.later (hbl o));have HBf:=hid (fun o=>Hb1.out.trans ((hbl o).mono (Nat.le_trans Hbw.out Hb1.out.size)));clear hR1 hE1 hc1 hg1 e' c0 c1 cf cS hbl;rw[←Hn.out] at q7;unfold ivV;go_wp2_with fail;go_quiet ((go_at_call 270;exact Calls.quiet_of (zlj g ge' n cap _ (by exact q7 _) hvl)));all_goals go_wp2_with fail
     all_goals go_ret2
     all_goals exact⟨ye (HBf.out _) _,rfl,_,HRf.out _,rfl⟩
 · have HC2:=hid (HC.out.mono fun e w' h=>by rw[if_neg hlt] at h;exact h);rw[if_neg (fun h=>hlt h.1)];clear HC hlt;go_enter Tryz.func299,Tryz.ntmps299;go_wp2_with fail;refine HC2.out.mono ?_;rintro e w1 ⟨rfl,hc1,hg1⟩;have hR1:=HR.out.grown hg1 (fun e=>Hne.out (by injection e));have Hb1:=hid ((Below.refl base w).grown hg1 Hbw.out (fun k hk=>by injection hk with hk;omega));have hbl:∀o,Below w1.heap.size w1 (w1.alloc o):=fun o=>(Below.refl _ _).alloc (Nat.le_refl _) _
   have HRf:=hid (fun o=>hR1.later (hbl o));have HBf:=hid (fun o=>Hb1.out.trans ((hbl o).mono (Nat.le_trans Hbw.out Hb1.out.size)));clear hR1 hc1 hg1 hbl;unfold ivV;go_wp2_with fail;go_quiet (fail);all_goals go_wp2_with fail
   all_goals go_ret2
   all_goals exact⟨ye (HBf.out _) _,rfl,_,HRf.out _,rfl⟩
end
section
open Go.RowKit
attribute [local go_sem] vq
theorem z6l (f:Fn) (a b:Array Value) (w:World):(binOp .neq 278 (.func f a b) .nilFunc).run Tryz.prog w=.ok (.bool true) w:=by kernel_rfl
theorem z6m (f:Fn) (a b:Array Value) (w:World):(binOp .eql 278 (.func f a b) .nilFunc).run Tryz.prog w=.ok (.bool false) w:=by kernel_rfl
theorem z6n (w:World):(binOp .neq 278 .nilFunc .nilFunc).run Tryz.prog w=.ok (.bool false) w:=by kernel_rfl
theorem z6o (w:World):(binOp .eql 278 .nilFunc .nilFunc).run Tryz.prog w=.ok (.bool true) w:=by kernel_rfl
theorem z6p (P:Program) (w:World) (a:Addr) (m:Mode):(store a .nilFunc m).run P w=stored P w a .nilFunc m:=run_store P w a _ m rfl
attribute [local go_sem] z6p z6l z6m z6n z6o
def PkP (w:World) (base g:Nat) (L:zt) (r:Except Nat PS) (e:Ending) (w':World):Prop:=
 Below base w w'∧match r with
 | .error c=>e=.returned (.tuple #[.bool true,.iface 34 (.int .i64 (c:Int))])
 | .ok s'=>e=.returned (.tuple #[.bool (decide (s'.tag=6)),.nilIface])∧PkR w' base g L (pkF g s'.tag) s'
theorem z6q (g t:Nat) (h:t<6):∃f,pkF g t=.func (.func f) #[.pointer (some ⟨g,0,none⟩)] #[]:=by
 rcases(by omega:t=0∨t=1∨t=2∨t=3∨t=4∨t=5) with rfl | rfl | rfl | rfl | rfl | rfl <;> exact⟨_,rfl⟩
set_option maxRecDepth 20000 in
theorem zg8 (base g:Nat) (L:zt) (V cu:Value) (ents hls t:Nat) (ht6:t<6) (r:Except Nat PS) (x rest:Nat) (w:World) (hg:base≤g) (hR:Row w g 280 (pkC L (pkF g t) V ents hls cu))
 (hS:∀f,pkF g t=.func (.func f) #[.pointer (some ⟨g,0,none⟩)] #[]→Calls Tryz.prog f #[.pointer (some ⟨g,0,none⟩),.int .u64 (x:Int),.int .i64 (rest:Int)] w (PkS w base g L r)) (h6:∀s',r=.ok s'→s'.tag≤6):
 Calls Tryz.prog 147 #[.pointer (some ⟨g,0,none⟩),.int .u64 (x:Int),.int .i64 (rest:Int)] w (PkP w base g L r):=by
 have q5:=hR.cell 5 rfl;have q6:=hR.cell 6 rfl;have Hg:=hid hg
 cases r with
 | error c=>
  rcases(by omega:t=0∨t=1∨t=2∨t=3∨t=4∨t=5) with rfl | rfl | rfl | rfl | rfl | rfl
  all_goals
   have HS:=hid (hS _ rfl);simp only[pkF] at q5;clear hS;clear hR h6;go_enter Tryz.func147,Tryz.ntmps147;go_wp2_with fail;refine HS.out.mono ?_;rintro e w1 ⟨hb,rfl,C,hR1,hC⟩;obtain⟨y5,p5⟩:∃y,w1.cell? ⟨g,5,none⟩=some y:=⟨_,hR1.cell 5 (List.getElem?_eq_getElem (by omega))⟩;obtain⟨y6,p6⟩:∃y,w1.cell? ⟨g,6,none⟩=some y:=⟨_,hR1.cell 6 (List.getElem?_eq_getElem (by omega))⟩;have z5:=hR1.fz 5;have z6:=hR1.fz 6;have Hb:=hid ((hb.setCell (p:=⟨g,5,none⟩) hg .nilFunc).setCell (p:=⟨g,6,none⟩) hg (.iface 34 (.int .i64 (c:Int))));clear hb hR1 hC q5 q6;go_wp2_with fail;go_quiet (fail);all_goals go_wp2_with fail
   all_goals go_ret2
   all_goals exact⟨ye Hb.out _,rfl⟩
 | ok s'=>
  rcases(by omega:t=0∨t=1∨t=2∨t=3∨t=4∨t=5) with rfl | rfl | rfl | rfl | rfl | rfl
  all_goals
   have HS:=hid (hS _ rfl);simp only[pkF] at q5;clear hS;have H6:=hid (h6 s' rfl);clear hR h6;go_enter Tryz.func147,Tryz.ntmps147;go_wp2_with fail;refine HS.out.mono ?_;rintro e w1 ⟨hb,nx,rfl,hg',V',cu',hR1,hB⟩;have p5:=hR1.cell 5 rfl;have p6:=hR1.cell 6 rfl;have z5:=hR1.fz 5;have z6:=hR1.fz 6;have Hb:=hid ((hb.setCell (p:=⟨g,5,none⟩) hg (pkF g s'.tag)).setCell (p:=⟨g,6,none⟩) hg .nilIface);have HR:=hid (show Row ((w1.setCell ⟨g,5,none⟩ (pkF g s'.tag)).setCell ⟨g,6,none⟩ .nilIface) g 280 (pkC L (pkF g s'.tag) V' s'.ents s'.hls cu') from(hR1.set 5 _).set 6 _);have HB:=hid (hB.grown hR1 (za8 (a:=⟨g,6,none⟩) (za8 (a:=⟨g,5,none⟩) (zgl w1 _) (pkF g s'.tag) (.inr rfl)) .nilIface (.inr rfl)));clear hb hR1 hB q5 q6;by_cases ht:s'.tag=6
   · have Hd:=hid (show decide (s'.tag=6)=true from decide_eq_true ht);have Hf:=hid (show pkF g s'.tag=.nilFunc from by rw[ht];rfl);rw[Hf.out] at HR HB Hb ⊢;clear ht;go_wp2_with fail;go_quiet (fail);all_goals go_wp2_with fail
     all_goals go_ret2
     all_goals exact⟨ye Hb.out _,by rw[Hd.out];rfl,hg,V',cu',by rw[Hf.out];exact HR.out,HB.out.later (ye (Below.refl _ _) _)⟩
   · have Hd:=hid (show decide (s'.tag=6)=false from decide_eq_false ht);obtain⟨f',hf'⟩:=z6q g s'.tag (by have:=H6.out;omega);have Hf:=hid hf';rw[hf'] at HR HB Hb ⊢;clear ht hf';go_wp2_with fail;go_quiet (fail);all_goals go_wp2_with fail
     all_goals go_ret2
     all_goals exact⟨ye Hb.out _,by rw[Hd.out];rfl,hg,V',cu',by rw[Hf.out];exact HR.out,HB.out.later (ye (Below.refl _ _) _)⟩
theorem zvv (base g:Nat) (L:zt) (s:PS) (x rest:Nat) (w:World) (h:PkR w base g L (pkF g s.tag) s) (ht:s.tag<6) (hL:LimsI L) (hx:x<18446744073709551616) (hr:rest<9223372036854775808) (hF:PFit s 900000000000) (he:1≤s.tag→0<s.ents):
 Calls Tryz.prog 147 #[.pointer (some ⟨g,0,none⟩),.int .u64 (x:Int),.int .i64 (rest:Int)] w (PkP w base g L (qb L.2.2.1 L.2.2.2.1 s x rest)):=by
 have h6:∀s',qb L.2.2.1 L.2.2.2.1 s x rest=.ok s'→s'.tag≤6:=fun s' hs=>(zii ht he hs).1
 have hvl:=hF.vl;obtain⟨hg,V,cu,hR,hB⟩:=h;have hP:PkR w base g L (pkF g s.tag) s:=⟨hg,V,cu,hR,hB⟩;rcases(by omega:s.tag=0∨s.tag=1∨s.tag=2∨s.tag=3∨s.tag=4∨s.tag=5) with e | e | e | e | e | e
 · exact zg8 base g L V cu _ _ s.tag ht _ x rest w hg hR (fun f hf=>by rw[e] at hf;cases hf;exact(z5q base g L _ s x rest w hP e hL hx hr)) h6
 · exact zg8 base g L V cu _ _ s.tag ht _ x rest w hg hR (fun f hf=>by rw[e] at hf;cases hf;exact(z5w base g L _ s x rest w hP e hx hF.v (by omega))) h6
 · exact zg8 base g L V cu _ _ s.tag ht _ x rest w hg hR (fun f hf=>by rw[e] at hf;cases hf;exact(z5r base g L _ s x rest w hP e (by omega))) h6
 · exact zg8 base g L V cu _ _ s.tag ht _ x rest w hg hR (fun f hf=>by rw[e] at hf;cases hf;exact(z5n base g L _ s x rest w hP e hL hx hr (he (by omega)) hF.ents)) h6
 · exact zg8 base g L V cu _ _ s.tag ht _ x rest w hg hR (fun f hf=>by rw[e] at hf;cases hf;exact(z5o base g L _ s x rest w hP e hx hF.h)) h6
 · exact zg8 base g L V cu _ _ s.tag ht _ x rest w hg hR (fun f hf=>by rw[e] at hf;cases hf;exact(z6k base g L _ s x rest w hP e hx hF (he (by omega)))) h6
set_option maxRecDepth 20000 in
theorem zvw (base g:Nat) (L:zt) (s:PS) (w:World) (h:PkR w base g L (pkF g s.tag) s) (ht:s.tag=6):
 Calls Tryz.prog 148 #[.pointer (some ⟨g,0,none⟩)] w fun e w'=>(∃V,e=.returned V∧OwnV w base V s.v)∧w=w':=by
 obtain⟨hg,V,cu,hR,hB⟩:=h;have hV:OwnV w base V s.v:=by unfold PkB at hB;rw[ht] at hB;exact hB
 rw[ht] at hR;have q5:=hR.cell 5 rfl;have q6:=hR.cell 6 rfl;have q7:=hR.cell 7 rfl;have HV:=hid hV;simp only[pkF] at q5;clear hR hB hV ht;go_enter Tryz.func148,Tryz.ntmps148;go_wp2_with fail;go_ret;exact⟨⟨_,rfl,HV.out⟩,rfl⟩
end
end Go.Proofs.YtdnjfnofjaoajaaGreatDoor
