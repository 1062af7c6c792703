/- Part 06. -/
import Derived.ChangeSame
import Derived.ChangeVars
import Derived.JoinedOf
import Derived.RowKit
import Derived.LaidLaws
import Derived.LaidHandle
import Derived.LaidSub
import Derived.LaidMore
import Derived.Lay
import Derived.HandedShaped
import Derived.Deep.DeepLaidRun
import Derived.Lib.LaidTab
import Derived.Stop.LaidErr
import Derived.Stop.Joined
import Derived.Deep.SlicePairs
import Derived.ProofKit
import Derived.OpenShut
import Derived.Test.YtmfhggnlainmiaaGreatDoorPk05
set_option linter.unusedVariables false
set_option maxHeartbeats 16000000
namespace Go.Proofs.YtmfhggnlainmiaaGreatDoor
open Lib (hid)
section
open Go.ChangeShapes Go.WideShapes Go.RowKit
theorem Lay.own:ownKnob Tryz.prog.godebug=none:=by kernel_rfl
theorem Lay.et:Tryz.prog.globalNamed "errors.errorType" =some 0:=by kernel_rfl
theorem Lay.rt:(Tryz.prog.cutTypes.find? (·.1 == "internal/reflectlite.rtype")).map (·.2)=some 272:=by kernel_rfl
theorem Lay.oneRow:((List.range 453).filter fun t=>Tryz.prog.rowNamed t [101,114,114,111,114])=[38]:=by kernel_rfl
theorem Lay.size:Tryz.prog.types.size=453:=by kernel_rfl
theorem zxd {W:World} (h':handlesMet Tryz.prog [("errors.errorType",Rows.laid_errors_errorType)] W):Door W:=by
 obtain⟨name,u,ty,e1,e2,e3,e4,e5⟩:=h' _ (List.mem_singleton.2 rfl);have en:name=[101,114,114,111,114]:=(Option.some.inj e1).symm;subst en;obtain rfl:=Option.some.inj (Lay.rt.symm.trans e2);have hm:ty∈(List.range 453).filter fun t=>Tryz.prog.rowNamed t [101,114,114,111,114]:=List.mem_filter.2 ⟨List.mem_range.2 (by rw[←Lay.size];exact e3),e4⟩
 rw[Lay.oneRow] at hm;obtain rfl:=List.mem_singleton.1 hm;have hh:typeHandle Tryz.prog 38=.pointer (some ⟨2,38,none⟩):=by kernel_rfl
 rw[hh] at e5;have:=World.var?_cell Lay.et e5 0;unfold Door;simpa using this
noncomputable def zd9 (os:Os):World:=World.doorLaid Tryz.prog 21 os
theorem zgk (os:Os):(zd9 os).os=os:=rfl
theorem zgl (os:Os) (args:Array Value):((zd9 os).forCall (fun _ _=>0) ⟨#[],args,[]⟩).Shaped Tryz.prog:=World.shaped_of_ZipB (by kernel_rfl) (by kernel_rfl)
theorem zgm {H:Type} {enc:TypeId×Value→H} {a:Assume} {C:Checked} {os:Os} {f:FuncId} {fn:Func} {s:ChangeSpec} {conds:List PathCond} {apart fresh handsOn again:Bool} {X:World→Array Value→Prop}
 (hX:∀(w w':World) (args:Array Value),w.heap=w'.heap→X w args→X w' args)
 (own:ownKnob C.prog.godebug=none) (started:os.Started) (noInit:C.prog.inits.idxOf? f=none) (hfn:C.prog.funcs[f]?=some fn)
 (witness:∃(w:World) (tape:Tape) (i:Input),w.os=os∧(w.forCall tape i).Shaped C.prog∧i.vars=[]∧Input.okWide C.prog (w.forCall tape i) .any w.heap.size f i∧
   ((s.pre enc C.prog fn conds apart (w.forCall tape i).memory i.args∧X (w.forCall tape i).memory i.args)∧sizedMet enc C.prog fn (OpenSpec.ofChange s) apart (w.forCall tape i).memory i.args)∧a.holds C.prog (lone (Frame.enter C.prog f i.args .normal) [] (w.forCall tape i)))
 (contract:∀(W:World) (base:Nat) (args:Array Value) (ds gs:List (DataW H)) (before:List MemPlace),
   (∀(j:Nat) t v,fn.params[j]?=some t→args[j]?=some v→Value.okWide C.prog W .any base t v)→
   DataW.Whole enc C.prog fn.params.toList s.vars apart W args.toList ds gs before→
   conds.all (PathCond.test C.prog ⟨fn.params.toList,ds,s.plain.varTypes C.prog,gs⟩)=true→
   (DataW.weightsEach C.prog (fn.params.toList++s.plain.varTypes C.prog) (ds++gs)).all (· ≤reachBytes)=true→X W args→W.ShapedOpen C.prog→
   a.holds C.prog (lone (Frame.enter C.prog f args .normal) [] W)→
   Calls C.prog f args W fun e W'=>∃v,e=.returned v∧s.post enc C.prog fn apart fresh handsOn again W args v W'):
 ReturnsInHanded a C os f .any (fun w args=>(s.pre enc C.prog fn conds apart w args∧X w args)∧sizedMet enc C.prog fn (OpenSpec.ofChange s) apart w args) (s.post enc C.prog fn apart fresh handsOn again):=by
 refine returnsInHanded_of_calls own started noInit witness ?_;intro w tape i _ hsh _ hok hpre hholds;obtain⟨_,_,_,fn',hfn',_,_,_,_,hval⟩:=hok;have e:fn'=fn:=Option.some.inj (hfn'.symm.trans hfn);subst e;obtain⟨⟨⟨ds,gs,before,hw,hc⟩,hx⟩,hz⟩:=hpre;have hw':=DataW.Whole.of_heap (w':=w.forCall tape i) (by rfl) hw;refine(contract (w.forCall tape i) w.heap.size i.args ds gs before hval hw' hc (hz.weights hw) (hX _ _ _ (by rfl) hx) hsh hholds).mono fun e W' ⟨v,he,hp⟩=>?_
 subst he;exact ChangeSpec.post_blind hp
theorem zn2 {z:Int} (h:(Lit.int .u64 z).wf=true):∃n:Nat,z=n∧n<18446744073709551616:=by
 have h':0≤z∧z≤18446744073709551615:=by
  simp[Lit.wf,IntKind.min,IntKind.max,IntKind.bits,IntKind.signed] at h;omega
 exact⟨z.toNat,by omega,by omega⟩
theorem zrt {z:Int} (h:(Lit.int .u8 z).wf=true):∃n:Nat,z=n∧n<256:=by
 have h':0≤z∧z≤255:=by
  simp[Lit.wf,IntKind.min,IntKind.max,IntKind.bits,IntKind.signed] at h;omega
 exact⟨z.toNat,by omega,by omega⟩
theorem zn3 {w:World} {b o d:Nat} {k:Option Nat} {v:Value} (h:w.cell? ((⟨b,o,k⟩:Addr).add (0*d))=some v):k=none:=by
 cases k with
 | none=>rfl
 | some j=>
  rw[Nat.zero_mul] at h;have hx:((⟨b,o,some j⟩:Addr).add 0)=⟨b,o,some j⟩:=rfl;rw[hx] at h;unfold World.cell? at h;split at h <;> simp at h
section
variable {H:Type} {enc:TypeId×Value→H} {W:World} {fuel:Nat} {x:DataW H×List MemPlace}
theorem z9e {P:Program} {base:Nat} {spare:Nat→Bool} {held:Bool} {t e:TypeId} {f0 f1 f2:Field} {cs:List Value} (ht:P.underlying t=some (.slice e)) (he:P.underlying e=some (.struct #[f0,f1,f2]))
 (ce:P.cellsOf e=3) (o0:f0.offset=0) (o1:f1.offset=1) (o2:f2.offset=2) (c0:P.cellsOf f0.type=1) (c1:P.cellsOf f1.type=1) (c2:P.cellsOf f2.type=1)
 (h:DataW.trod enc P W base spare held fuel t cs=some x):
 cs=[.slice none 0 0]∨∃(a:Addr) (len cap m n:Nat),cs=[.slice (some a) len cap]∧len≤cap∧cap≤maxLen∧m=(if spare a.block then cap else len)∧
  ∀i,i<m→∃v0 v1 v2 y0 y1 y2,W.cell? (a.add (i*3))=some v0∧W.cell? (a.add (i*3+1))=some v1∧W.cell? (a.add (i*3+2))=some v2∧
   DataW.trod enc P W base spare held n f0.type [v0]=some y0∧DataW.trod enc P W base spare held n f1.type [v1]=some y1∧DataW.trod enc P W base spare held n f2.type [v2]=some y2:=by
 rcases Deep.open_slice ht h with ⟨h0,-⟩ | ⟨a,len,cap,m,n,D,Pl,rfl,hb,hl,hm,hmm,rfl,hx⟩
 · exact Or.inl h0
 right;refine⟨a,len,cap,m,n - 1,rfl,hl,hm,hmm,fun i hi=>?_⟩;obtain⟨cs',h1,h2⟩:=hx i hi;rw[ce] at h1;obtain⟨_,hlen,hcell⟩:=World.cells?_some h1;obtain⟨xs,k,hk,hxy,_,hxl,hf⟩:=DataW.trod_struct he h2;have hk':k=n - 1:=by omega
 subst hk'
 match xs,hxl,cs',hlen with
 | [y0,y1,y2],_,[v0,v1,v2],_=>
  have g0:=hf 0 f0 rfl;have g1:=hf 1 f1 rfl;have g2:=hf 2 f2 rfl;simp[o0,o1,o2,c0,c1,c2] at g0 g1 g2;have e0:=hcell 0 (by omega);have e1:=hcell 1 (by omega);have e2:=hcell 2 (by omega);rw[Deep.add_add] at e0 e1 e2;exact⟨v0,v1,v2,y0,y1,y2,by simpa using e0,by simpa using e1,by simpa using e2,g0,g1,g2⟩
theorem zxe {v:Value} (h:DataW.trod enc Tryz.prog W 0 (fun _=>true) true fuel 123 [v]=some x):∃a n c l,v=.slice a n c∧Ivs W a n c l:=by
 rcases Deep.open_slice_pairs Tryz.underlying123 Tryz.underlying135 (by kernel_rfl) rfl rfl (by kernel_rfl) (by kernel_rfl) h with ⟨hcs,_⟩ | ⟨ad,len,cap,m,n,V0,V1,D0,D1,P0,P1,hcs,hb,hl,hm,hmm,hx,hc⟩
 · simp at hcs;subst hcs;exact⟨none,0,0,[],rfl,zjr _⟩
 · simp at hcs;subst hcs
   have each:∀i,i<m→∃s:Iv,W.cell? (ad.add (i*2))=some (.int .u64 ((s.1:Nat):Int))∧W.cell? (ad.add (i*2+1))=some (.int .u64 ((s.2:Nat):Int))∧s.1<18446744073709551616∧s.2<18446744073709551616:=by
    intro i hi;obtain⟨h1,h2,h3,h4⟩:=hc i hi;obtain⟨z0,e0,_,w0⟩:=DataW.trod_int Tryz.underlying64 h3;obtain⟨z1,e1,_,w1⟩:=DataW.trod_int Tryz.underlying64 h4;obtain⟨n0,rfl,l0⟩:=zn2 w0;obtain⟨n1,rfl,l1⟩:=zn2 w1;simp only[List.cons.injEq,and_true] at e0 e1;rw[e0] at h1;rw[e1] at h2;exact⟨(n0,n1),h1,h2,l0,l1⟩
   obtain⟨f,hf⟩:=Deep.choose_lt each;have hmc:m=cap:=by simpa using hmm
   refine⟨some ad,len,cap,(List.range len).map f,rfl,by simp,?_,hl,by unfold maxLen at hm;omega,(by intro h;cases h),fun hn=>?_⟩
   · intro s hs;obtain⟨i,hi,rfl⟩:=List.mem_map.1 hs;have hi':i<len:=List.mem_range.1 hi;exact(hf i (by omega)).2.2
   · obtain⟨b,o,k⟩:=ad;obtain rfl:k=none:=zn3 (hf 0 (by omega)).1;refine⟨b,o,rfl,fun i hi=>?_⟩;obtain⟨h1,h2,_,_⟩:=hf i (by omega);rw[qg] at h1 h2;have e:zb ((List.range len).map f) i=f i:=by rw[jg (by simpa using hi)];simp
     rw[e,Nat.add_assoc];exact⟨h1,h2⟩
theorem z9f {v:Value} (h:DataW.trod enc Tryz.prog W 0 (fun _=>true) true fuel 125 [v]=some x):∃a n c l,v=.slice a n c∧Ents W a n c l:=by
 rcases z9e Tryz.underlying125 Tryz.underlying137 (by kernel_rfl) rfl rfl rfl (by kernel_rfl) (by kernel_rfl) (by kernel_rfl) h with hcs | ⟨ad,len,cap,m,n,hcs,hl,hm,hmm,hc⟩
 · simp at hcs;subst hcs;exact⟨none,0,0,[],rfl,zww _⟩
 · simp at hcs;subst hcs
   have each:∀i,i<m→∃e:Ent,W.cell? (ad.add (i*3))=some (.int .u64 ((e.1:Nat):Int))∧W.cell? (ad.add (i*3+1))=some (.int .u64 ((e.2.1:Nat):Int))∧LtE e∧
    ∃x k c,W.cell? (ad.add (i*3+2))=some (.slice x k c)∧Ivs W x k c e.2.2:=by
    intro i hi;obtain⟨v0,v1,v2,y0,y1,y2,h1,h2,h3,g0,g1,g2⟩:=hc i hi;obtain⟨z0,e0,_,w0⟩:=DataW.trod_int Tryz.underlying64 g0;obtain⟨z1,e1,_,w1⟩:=DataW.trod_int Tryz.underlying64 g1;obtain⟨a,k,c,l,rfl,hI⟩:=zxe g2;obtain⟨n0,rfl,l0⟩:=zn2 w0;obtain⟨n1,rfl,l1⟩:=zn2 w1;simp only[List.cons.injEq,and_true] at e0 e1;rw[e0] at h1;rw[e1] at h2;exact⟨(n0,n1,l),h1,h2,⟨l0,l1,hI.lt⟩,a,k,c,h3,hI⟩
   obtain⟨f,hf⟩:=Deep.choose_lt each;have hmc:m=cap:=by simpa using hmm
   refine⟨some ad,len,cap,(List.range len).map f,rfl,by simp,?_,hl,by unfold maxLen at hm;omega,(by intro h;cases h),fun hn=>?_⟩
   · intro s hs;obtain⟨i,hi,rfl⟩:=List.mem_map.1 hs;have hi':i<len:=List.mem_range.1 hi;exact(hf i (by omega)).2.2.1
   · obtain⟨b,o,k⟩:=ad;obtain rfl:k=none:=zn3 (hf 0 (by omega)).1;refine⟨b,o,rfl,fun i hi=>?_⟩;obtain⟨h1,h2,-,x,k,c,h3,h4⟩:=hf i (by omega);rw[qg] at h1 h2 h3;have e:zg ((List.range len).map f) i=f i:=by rw[j0 (by simpa using hi)];simp
     rw[e,Nat.add_assoc,Nat.add_assoc];exact⟨h1,h2,x,k,c,h3,h4⟩
theorem zxf {v:Value} (h:DataW.trod enc Tryz.prog W 0 (fun _=>true) true fuel 48 [v]=some x):∃a n c k,v=.slice a n c∧Frags W a n c k:=by
 rcases Deep.open_slice_pairs Tryz.underlying48 Tryz.underlying127 (by kernel_rfl) rfl rfl (by kernel_rfl) (by kernel_rfl) h with ⟨hcs,_⟩ | ⟨ad,len,cap,m,n,V0,V1,D0,D1,P0,P1,hcs,hb,hl,hm,hmm,hx,hc⟩
 · simp at hcs;subst hcs;exact⟨none,0,0,[],rfl,zhj _⟩
 · simp at hcs;subst hcs
   have each:∀i,i<m→∃f:Frg,IvCell W (ad.add (i*2)) f.1∧EnCell W (ad.add (i*2+1)) f.2:=by
    intro i hi;obtain⟨h1,h2,h3,h4⟩:=hc i hi;obtain⟨a,k,c,l,e0,hI⟩:=zxe h3;obtain⟨a',k',c',l',e1,hV⟩:=z9f h4;rw[e0] at h1;rw[e1] at h2;exact⟨(l,l'),⟨a,k,c,h1,hI⟩,⟨a',k',c',h2,hV⟩⟩
   obtain⟨f,hf⟩:=Deep.choose_lt each;have hmc:m=cap:=by simpa using hmm
   refine⟨some ad,len,cap,(List.range len).map f,rfl,by simp,hl,by unfold maxLen at hm;omega,(by intro h;cases h),fun hn=>?_⟩;obtain⟨b,o,k⟩:=ad
   obtain rfl:k=none:=by
    obtain⟨⟨_,_,_,h1,_⟩,_⟩:=hf 0 (by omega);exact zn3 h1
   refine⟨b,o,rfl,fun i hi=>?_⟩;obtain⟨h1,h2⟩:=hf i (by omega);rw[qg] at h1 h2;have e:za ((List.range len).map f) i=f i:=by rw[qm (by simpa using hi)];simp
   rw[e,Nat.add_assoc];exact⟨h1,h2⟩
end
end
section
open Go.RowKit Go.Shelf
attribute [local go_sem] Oper.semAt_some zfp
theorem zxg (a:Option Addr) (n c t:Nat) (w:World):Calls Tryz.prog 196 #[.slice a n c,.int .u64 t] w fun e w'=>
 e=.returned (.func (.func 254) #[] #[.pointer (some ⟨w.heap.size,0,none⟩),.pointer (some ⟨w.heap.size+1,0,none⟩)])∧w'=(w.alloc (.cells #[.slice a n c] 48)).alloc (.cells #[.int .u64 t] 64):=by
 go_enter Tryz.func196,Tryz.ntmps196;go_wp2;go_ret;exact⟨by simp,rfl⟩
theorem zlh (w:World) (x y:Value) (T:TypeId) (w':World) (h:Below (w.alloc (.cells #[x,y] T)).heap.size (w.alloc (.cells #[x,y] T)) w'):
 w'.cell? ⟨w.heap.size,0,none⟩=some x∧w'.cell? ⟨w.heap.size,1,none⟩=some y:=by
 have hrow:(w.alloc (.cells #[x,y] T)).heap[w.heap.size]?=some (.cells #[x,y] T):=qa rfl
 exact⟨(h.cell (p:=⟨w.heap.size,0,none⟩) (by simp)).trans (ym (i:=0) hrow rfl),
  (h.cell (p:=⟨w.heap.size,1,none⟩) (by simp)).trans (ym (i:=1) hrow rfl)⟩
abbrev WEl:=Nat×Value×Value
def zn4 (x:WEl):Array Value:= #[.int .i64 ((x.1:Nat):Int),.agg #[x.2.1,x.2.2]]
def zhk (w:World) (k:Kno) (x:WEl):Prop:=(∃a n c,x.2.1=.slice a n c∧Ivs w a n c (za k x.1).1)∧∃a n c,x.2.2=.slice a n c∧Ents w a n c (za k x.1).2
set_option maxRecDepth 20000 in
theorem zxh (n:Nat) (w0 w:World) (bk bt:Nat) (a:Option Addr) (m c t:Nat) (k:Kno) (hE:Frags w0 a m c k) (hG:∀f∈k,Good f.1∧f.1.length≤1000000) (hb0:Below w0.heap.size w0 w) (hm:m≤500)
 (hbk:w.heap[bk]?=some (.cells #[.slice a m c] 48)) (hbt:w.heap[bt]?=some (.cells #[.int .u64 t] 64)):
 zro n Tryz.prog 254 #[.pointer (some ⟨bk,0,none⟩),.pointer (some ⟨bt,0,none⟩)] zn4
  (fun pre=>(∃rest,zx k t=pre.map (·.1)++rest)∧∀x∈pre,zhk w0 k x) (fun xs=>zx k t=xs.map (·.1)∧∀x∈xs,zhk w0 k x)
  (fun _=>False) (fun k=>k<w0.heap.size∨k=bk∨k=bt) w:=by
 intro l J Jx W hl hW hJ hJx hY h0;have H0:=hid (hb0.trans (hW.mono hb0.size));have hrk:=(hW.block bk (Array.getElem?_eq_some_iff.1 hbk).1).trans hbk;have hrt:=(hW.block bt (Array.getElem?_eq_some_iff.1 hbt).1).trans hbt;have Hrt:=hid hrt;have HE:=hid hE;have Hl:=hid hE.len;have HG:=hid hG;have HJ:=hid (fun s A B (h:J s A) (hb:Below A.heap.size A B)=>hJ s A B h ((Kept.refl _ A).below hb));have HY:=hid hY;have Hj0:=hid h0;clear hE hb0 hbk hbt hW hJ hJx hY h0 hl hG hrt;refine callsIn_of_wp Tryz.func254 rfl trivial ?_ rfl;simp only[Tryz.ntmps254,List.size_toArray,List.length_cons,List.length_nil,Nat.reduceAdd,Nat.reduceSub,Array.replicate_succ,Array.replicate_zero,List.push_toArray,List.append_toArray,List.nil_append,List.cons_append];have q1:=ji hrk;clear hrk
 gi_wp2
 clear q1
 gi_loopw [4,5,8] (fun _ _ i wr=>∃d:Nat,d≤m∧i=.int .i64 d∧Hid (Below w0.heap.size w0 wr∧wr.heap[bt]?=some (.cells #[.int .u64 t] 64)∧∃pre,J pre wr∧zbl k t d=pre.map (·.1)∧∀x∈pre,zhk w0 k x)) (fun _ _ i _=>m - (intOf i).toNat)
 case atStart=>exact⟨0,by omega,rfl,H0.out,Hrt.out,[],Hj0.out,rfl,fun x hx=>by cases hx⟩
 case round=>
  obtain⟨d,hd,rfl,hinv⟩:=hrel;obtain⟨hb,hrt,pre,hj,hpre,hsl⟩:=hinv.out;by_cases hdm:d<m
  · have hdk:d<k.length:=by rw[Hl.out];exact hdm
    obtain⟨bb,oo,rfl⟩:=HE.out.some (by omega);obtain⟨x,n1,c1,y,n2,c2,hq⟩:=HE.out.fix hdm;obtain⟨q1,hI,q2,hV⟩:=hq wr hb;have Hsl0:=hid (show zhk w0 k (d,.slice x n1 c1,.slice y n2 c2) from⟨⟨_,_,_,rfl,(hq w0 (Below.refl _ _)).2.1⟩,_,_,_,rfl,(hq w0 (Below.refl _ _)).2.2.2⟩);have Hst:=hid (zk7 k t d)
    have Hmem:=hid (show mem (za k d).1 t=true→∃rest,zx k t=zbl k t d++[d]++rest from fun h=>by
     have h1:zx k t=zbl k t k.length:=rfl
     have h2:∀e,zbl k t (d+1+e)=zbl k t (d+1)++((List.range e).map (d+1+·)).filter fun i=>mem (za k i).1 t:=by
      intro e;unfold zbl;rw[List.range_add,List.filter_append]
     obtain⟨e,he⟩:∃e,k.length=d+1+e:=⟨k.length - (d+1),by omega⟩;rw[h1,he,h2,zk7,if_pos h];exact⟨_,rfl⟩)
    have hal:Below wr.heap.size wr (wr.alloc (.cells #[.slice x n1 c1,.slice y n2 c2] 127)):=(Below.refl _ _).alloc (Nat.le_refl _) _;have hg:=HG.out _ (yh hdk);have hC:=hid (zrm x n1 c1 t (za k d).1 _ (hI.below hal) hg.1 (by rw[←hI.len];exact hg.2));have Hal:=hid hal;have hz1:(wr.alloc (.cells #[.slice x n1 c1,.slice y n2 c2] 127)).cell? ⟨bt,0,none⟩=some (.int .u64 t):=ji (jv hrt);have Hb:=hid hb;have Hrt:=hid hrt;have Hj:=hid hj;have Hpre:=hid hpre;have Hsl:=hid hsl;have h0d:(0:Int)≤d:=by omega
    have h04:(d:Int)<(m:Int):=by omega
    clear hb hrt hj hpre hsl hq hI hV hinv hal hg;generalize mem (za k d).1 t=b at*
    gi_wp2_with fail
    refine⟨fun h=>(by cases h),(callsIn_wide.2 hC.out).mono ?_⟩;rintro e w1 ⟨rfl,hb1⟩;have Hb1:=hid hb1;clear hb1 hz1 q1 q2;have Hw1:=hid (Hal.out.trans (Hb1.out.mono Hal.out.size));have Hb1w:=hid (Hb.out.trans (Hw1.out.mono Hb.out.size));have Hrt1:=hid ((Hw1.out.block _ (Array.getElem?_eq_some_iff.1 Hrt.out).1).trans Hrt.out);have Hj1:=hid (HJ.out _ _ _ Hj.out Hw1.out);obtain⟨f0,f1⟩:=zlh wr (.slice x n1 c1) (.slice y n2 c2) 127 w1 Hb1.out
    cases b with
    | false=>
     rw[if_neg (by simp),List.append_nil] at Hst
     gi_wp2
     go_roundw
     case rel=>exact⟨d+1,by omega,by go_num,Hb1w.out,Hrt1.out,pre,Hj1.out,by rw[Hst.out];exact Hpre.out,Hsl.out⟩
     case measure=>simp[intOf];omega
    | true=>
     rw[if_pos rfl] at Hst;have hmm:=Hmem.out rfl;obtain⟨rest,hrest⟩:=hmm
     have hV:(∃rest,zx k t=(pre++[((d,.slice x n1 c1,.slice y n2 c2):WEl)]).map (·.1)++rest)∧∀x'∈pre++[((d,.slice x n1 c1,.slice y n2 c2):WEl)],zhk w0 k x':=by
      refine⟨⟨rest,by rw[hrest,Hpre.out,List.map_append];rfl⟩,fun x' hx'=>?_⟩;rcases List.mem_append.1 hx' with h | h
      · exact Hsl.out x' h
      · rw[List.mem_singleton] at h;rw[h];exact Hsl0.out
     have HV:=hid hV;obtain⟨fn,tmps,assign,body,hy,hR⟩:=HY.out pre (d,.slice x n1 c1,.slice y n2 c2) w1 hV Hj1.out;simp only[zn4] at hy;clear hV hrest
     gi_wp2
     first | refine hR.mono ?_ | refine⟨fun h=>(by cases h),hR.mono ?_⟩
     rintro e W3 (⟨rfl,hJ3,hk3⟩ | ⟨rfl,hJx3⟩)
     · have H3:=hid (show Below w0.heap.size w0 W3∧W3.heap[bt]?=some (.cells #[.int .u64 t] 64)∧∃pre,J pre W3∧zbl k t (d+1)=pre.map (·.1)∧∀x∈pre,zhk w0 k x from
        ⟨Hb1w.out.trans (hk3.toBelow (fun k hk=>.inl hk) Hb1w.out.size),(hk3.row _ (Array.getElem?_eq_some_iff.1 Hrt1.out).1 (.inr (.inr rfl))).trans Hrt1.out,_,hJ3,by rw[Hst.out,Hpre.out,List.map_append];rfl,HV.out.2⟩)
       clear hJ3 hk3 hy hR f0 f1
       gi_wp2
       go_roundw
       case rel=>exact⟨d+1,by omega,by go_num,H3.out⟩
       case measure=>simp[intOf];omega
     · have HX:=hid (show ∃pre,((∃rest,zx k t=pre.map (·.1)++rest)∧∀x∈pre,zhk w0 k x)∧Jx pre W3 from⟨_,HV.out,hJx3⟩);clear hJx3 hy hR f0 f1
       gi_wp2
       go_wp2;refine bodyPost_ret (results_none rfl _ _ _) rfl ?_;exact⟨⟨_,rfl⟩,.inr HX.out⟩
  · obtain rfl:d=m:=by omega
    have HF:=hid (show ∃xs,(zx k t=xs.map (·.1)∧∀x∈xs,zhk w0 k x)∧J xs wr from⟨pre,⟨by rw[←hpre,←Hl.out];rfl,hsl⟩,hj⟩);clear hb hrt hj hpre hsl hinv
    gi_wp2
    refine bodyPost_end (results_none rfl _ _ _) rfl ?_;exact⟨⟨_,rfl⟩,.inl HF.out⟩
end
section
open Go.RowKit Go.Shelf
attribute [local go_sem] Oper.semAt_some zfp
structure KeptT (base:Nat) (T:TypeId→Prop) (A B:World):Prop where
 os:B.os=A.os
 tape:B.tape=A.tape
 output:B.output=A.output
 size:A.heap.size≤B.heap.size
 row:∀k,k<A.heap.size→(k<base∨∃C U fr,T U∧A.heap[k]?=some (.cells C U fr))→B.heap[k]?=A.heap[k]?
theorem KeptT.toBelow {base:Nat} {T:TypeId→Prop} {A B:World} (h:KeptT base T A B) (hb:base≤A.heap.size):Below base A B:=⟨h.os,h.tape,h.output,h.size,fun k hk=>h.row k (by omega) (.inl hk)⟩
theorem KeptT.typed {base:Nat} {T:TypeId→Prop} {A B:World} (h:KeptT base T A B) {k:Nat} {C:Array Value} {U:TypeId} {fr:Nat×Nat} (hT:T U) (hr:A.heap[k]?=some (.cells C U fr)):B.heap[k]?=some (.cells C U fr):=
 (h.row k (Array.getElem?_eq_some_iff.1 hr).1 (.inr ⟨C,U,fr,hT,hr⟩)).trans hr
def zli (T:TypeId):Prop:=T=135∨T=137∨T=125
theorem z9g {P:Program} {w:World} (ty:TypeId) (cs:Array Value) (k len:Nat) (e:TypeId) (ik:IntKind) (v:Value)
 (hu:P.underlying ty=some (.array len e)) (hk:k<len) (he:P.underlying e=some (.int ik)) (hi:(P.info? e).map (·.size)=some 1) (hv:cs[k]?=some v):
 (Instr.index ty (.agg cs) (.int .i64 (k:Int))).run P w=.ok v w:=by
 cases hq:P.info? e with
 | none=>simp[hq] at hi
 | some i=>
  have hsz:i.size=1:=by simpa [hq] using hi
  simp only[Instr.index,asIntOf,Sem.run_bind,Sem.run_pure,Result.andThen_ok,run_underlying hu];have hk':0≤(k:Int)∧(k:Int)<(len:Int):=⟨by omega,by omega⟩;simp[Sem.run_bind,part,isAgg,sizeOf,typeInfo,run_underlying he,hq,hsz,hv,hk']
theorem z9h (a:Option Addr) (n c:Nat) (w:World):Calls Tryz.prog 292 #[.slice a n c] w fun e w'=>
 e=.returned (.func (.func 317) #[] #[.pointer (some ⟨w.heap.size,0,none⟩)])∧w'=w.alloc (.cells #[.slice a n c] 125):=by
 go_enter Tryz.func292,Tryz.ntmps292;go_wp2;go_ret;exact⟨rfl,rfl⟩
set_option maxRecDepth 100000 in
theorem z9i (n:Nat) (w0 w:World) (ba:Nat) (a:Option Addr) (m c:Nat) (v:Vec) (hE:Ents w0 a m c v) (hb0:Below w0.heap.size w0 w)
 (hbx:w.heap[ba]?=some (.cells #[.slice a m c] 125)) (hm:m≤1000000000000):
 zwy n Tryz.prog 317 #[.pointer (some ⟨ba,0,none⟩)] (fun x=> #[.int .u64 ((x:Nat):Int)]) (fun pre=>∃rest,yj v=pre++rest) (fun xs=>xs=yj v)
  (fun _=>False) (KeptT w0.heap.size zli) w:=by
 intro l J Jx W hl hW hJ hJx hY h0;have H0:=hid (hb0.trans (hW.mono hb0.size));have Hbx:=hid ((hW.block ba (Array.getElem?_eq_some_iff.1 hbx).1).trans hbx);have HE:=hid hE;have Hlen:=hid hE.len;have HJ:=hid (fun s A B (h:J s A) (hb:Below A.heap.size A B)=>hJ s A B h ((Kept.refl _ A).below hb));have HY:=hid hY;have Hj0:=hid h0;clear hE hb0 hbx hW hJ hJx hY h0 hl;refine callsIn_of_wp Tryz.func317 rfl trivial ?_ rfl;simp only[Tryz.ntmps317,List.size_toArray,List.length_cons,List.length_nil,Nat.reduceAdd,Nat.reduceSub,Array.replicate_succ,Array.replicate_zero,List.push_toArray,List.append_toArray,List.nil_append,List.cons_append];have hwm:IntKind.u64.wrap (m:Int)=(m:Int):=by rw[IntKind.wrap_u64];omega
 have q1:=ji Hbx.out;have hV0:yj v=[m]++v.flatMap ko:=by unfold yj;rw[Hlen.out];rfl
 obtain⟨fn,tmps,assign,body,hy,hR⟩:=HY.out [] m W ⟨_,hV0⟩ Hj0.out;clear hV0
 gi_wp2
 first | refine hR.mono ?_ | refine⟨fun h=>(by cases h),hR.mono ?_⟩
 rintro e W3 (⟨rfl,hJ3,hk3⟩ | ⟨rfl,hJx3⟩)
 · have H3:=hid (H0.out.trans (hk3.toBelow H0.out.size));have Hbx3:=hid (hk3.typed (.inr (.inr rfl)) Hbx.out)
   have HJ3:=hid (show J (zbp v 0) W3 from by
    have e:zbp v 0=[]++[m]:=by unfold zbp;rw[Hlen.out];rfl
    rw[e];exact hJ3)
   clear hk3 hJ3 hy hR q1;have q1:=ji Hbx3.out
   gi_wp2
   clear q1
   gi_loopw [4,6,8,17,30,41] (fun _ _ _ i _ _ wr=>∃k:Nat,k≤m∧i=.int .i64 k∧Hid (Below w0.heap.size w0 wr∧wr.heap[ba]?=some (.cells #[.slice a m c] 125)∧J (zbp v k) wr)) (fun _ _ _ i _ _ _=>m - (intOf i).toNat)
   case atStart=>exact⟨0,by omega,rfl,H3.out,Hbx3.out,HJ3.out⟩
   case round=>
    obtain⟨k,hk,rfl,hinv⟩:=hrel;by_cases hkm:k<m
    · have hkv:k<v.length:=by rw[Hlen.out];exact hkm
      obtain⟨bb,oo,rfl⟩:=HE.out.some (by omega);obtain⟨x,d,cd,hq⟩:=HE.out.fix hkm;obtain⟨q1,q2,q3,-⟩:=hq wr hinv.out.1;have HIv:=hid (fun w' (h:Below w0.heap.size w0 w')=>(hq w' h).2.2.2);have Hst:=hid (zw3 hkv)
      have Hnum:=hid (show yj v=zbp v (k+1)++(v.drop (k+1)).flatMap ko from by
       unfold yj zbp;rw[List.cons_append,←List.flatMap_append,List.take_append_drop])
      clear hq;obtain⟨P1,hP1⟩:∃P1,zbp v (k+1)=P1:=⟨_,rfl⟩;rw[hP1] at Hst Hnum;have HP1:=hid hP1;clear hP1;generalize zbp v k=P at*;generalize (v.drop (k+1)).flatMap ko=rest at*;generalize zg v k=e at*;obtain⟨er,em,eh⟩:=e;simp only at q1 q2 q3 HIv Hst;have hlv:=(HIv.out w0 (Below.refl _ _)).len;have hdm:d≤9223372036854775807:=Nat.le_trans (HIv.out w0 (Below.refl _ _)).room (HIv.out w0 (Below.refl _ _)).most;have Hlv:=hid hlv;have hwd:IntKind.u64.wrap (d:Int)=(d:Int):=by rw[IntKind.wrap_u64];omega
      have h0k:(0:Int)≤k:=by omega
      have h04:(k:Int)<(m:Int):=by omega
      obtain⟨b4,hb4⟩:∃b4,b4=wr.heap.size:=⟨_,rfl⟩;have hrow:(wr.alloc (.cells #[.int .u64 er,.int .u64 em,.slice x d cd] 137)).heap[b4]?=some (.cells #[.int .u64 er,.int .u64 em,.slice x d cd] 137):=by rw[hb4];exact qa rfl
      have hal:Below wr.heap.size wr (wr.alloc (.cells #[.int .u64 er,.int .u64 em,.slice x d cd] 137)):=(Below.refl _ _).alloc (Nat.le_refl _) _
      have Hinv:=hid (show Below w0.heap.size w0 (wr.alloc (.cells #[.int .u64 er,.int .u64 em,.slice x d cd] 137))∧(wr.alloc (.cells #[.int .u64 er,.int .u64 em,.slice x d cd] 137)).heap[ba]?=some (.cells #[.slice (some ⟨bb,oo,none⟩) m c] 125)∧J P (wr.alloc (.cells #[.int .u64 er,.int .u64 em,.slice x d cd] 137)) from
       ⟨hinv.out.1.trans (hal.mono hinv.out.1.size),jv hinv.out.2.1,HJ.out _ _ _ hinv.out.2.2 hal⟩)
      have Hrow:=hid hrow;clear hrow hal hlv hinv
      gi_wp2
      rw[←hb4];have Hb4e:=hid hb4;clear hb4
      gi_loopw [6,30] (fun _ i wr=>∃z:Nat,z≤3∧i=.int .i64 z∧Hid (Below w0.heap.size w0 wr∧wr.heap[ba]?=some (.cells #[.slice (some ⟨bb,oo,none⟩) m c] 125)∧wr.heap[b4]?=some (.cells #[.int .u64 er,.int .u64 em,.slice x d cd] 137)∧J (P++[er,em,d].take z) wr)) (fun _ i _=>3 - (intOf i).toNat)
      case atStart=>exact⟨0,by omega,rfl,Hinv.out.1,Hinv.out.2.1,Hrow.out,by simpa using Hinv.out.2.2⟩
      case round=>
       obtain⟨z,hz,rfl,hinv⟩:=hrel;by_cases hz3:z<3
       · have hV:yj v=P++[er,em,d].take z++[nth [er,em,d] z]++([er,em,d].drop (z+1)++ve eh++rest):=by
          rw[Hnum.out,Hst.out];simp only[ko,Hlv.out];have hcs:z=0∨z=1∨z=2:=by omega
          rcases hcs with rfl | rfl | rfl <;> simp[nth]
         have htk:P++[er,em,d].take z++[nth [er,em,d] z]=P++[er,em,d].take (z+1):=by
          have hcs:z=0∨z=1∨z=2:=by omega
          rcases hcs with rfl | rfl | rfl <;> simp[nth]
         have Htk:=hid htk;obtain⟨fn,tmps,assign,body,hy,hR⟩:=HY.out _ _ wr ⟨_,hV⟩ hinv.out.2.2.2
         have hidx:(#[Value.int .u64 er,.int .u64 em,.int .u64 d]:Array Value)[z]?=some (.int .u64 ((nth [er,em,d] z:Nat):Int)):=by
          have hcs:z=0∨z=1∨z=2:=by omega
          rcases hcs with rfl | rfl | rfl <;> rfl
         have Hv:=hid hV;have hz0:(0:Int)≤z:=by omega
         have hzi:(z:Int)<3:=by omega
         have hix:=fun w'=>z9g (P:=Tryz.prog) (w:=w') 410 #[Value.int .u64 er,.int .u64 em,.int .u64 d] z 3 64 .u64 _ Tryz.underlying410 hz3 Tryz.underlying64 (by kernel_rfl) hidx
         clear hV htk hidx;generalize nth [er,em,d] z=y at*
         gi_wp2
         first | refine hR.mono ?_ | refine⟨fun h=>(by cases h),hR.mono ?_⟩
         rintro e W4 (⟨rfl,hJ4,hk4⟩ | ⟨rfl,hJx4⟩)
         · have H4:=hid (show Below w0.heap.size w0 W4∧W4.heap[ba]?=some (.cells #[.slice (some ⟨bb,oo,none⟩) m c] 125)∧W4.heap[b4]?=some (.cells #[.int .u64 er,.int .u64 em,.slice x d cd] 137)∧J (P++[er,em,d].take (z+1)) W4 from
            ⟨hinv.out.1.trans (hk4.toBelow hinv.out.1.size),hk4.typed (.inr (.inr rfl)) hinv.out.2.1,hk4.typed (.inr (.inl rfl)) hinv.out.2.2.1,by rw[←Htk.out];exact hJ4⟩)
           clear hJ4 hk4 hy hR hix
           gi_wp2
           go_roundw
           case rel=>exact⟨z+1,by omega,by go_num,H4.out⟩
           case measure=>simp[intOf];omega
         · have HX:=hid (show ∃pre,(∃rest,yj v=pre++rest)∧Jx pre W4 from⟨_,⟨_,Hv.out⟩,hJx4⟩);clear hJx4 hy hR hix
           gi_wp2
           go_wp2;refine bodyPost_ret (results_none rfl _ _ _) rfl ?_;exact⟨⟨_,rfl⟩,.inr HX.out⟩
       · obtain rfl:z=3:=by omega
         have e3:[er,em,d].take 3=[er,em,d]:=rfl;rw[e3] at hinv;have hr4:=zby hinv.out.2.2.1;have z0:=hr4.1;have z1:=hr4.2.1;have z2:=hr4.2.2.1;clear hr4 e3
         gi_wp2
         clear z0 z1 z2
         gi_loopw [8,41] (fun _ i wr=>∃z:Nat,z≤d∧i=.int .i64 z∧Hid (Below w0.heap.size w0 wr∧wr.heap[ba]?=some (.cells #[.slice (some ⟨bb,oo,none⟩) m c] 125)∧J (P++[er,em,d]++ve (eh.take z)) wr)) (fun _ i _=>d - (intOf i).toNat)
         case atStart=>exact⟨0,by omega,rfl,hinv.out.1,hinv.out.2.1,by simpa [ve] using hinv.out.2.2.2⟩
         case round=>
          clear hinv;obtain⟨z,hz,rfl,hinv⟩:=hrel;by_cases hzd:z<d
          · have hzl:z<eh.length:=by rw[Hlv.out];exact hzd
            obtain⟨hb,ho,rfl,hc⟩:=(HIv.out w0 (Below.refl _ _)).cells (by omega);obtain⟨c1,c2⟩:=hc z hzd;have c1:=(hinv.out.1.cell (p:=⟨hb,ho+z*2,none⟩) (zf c1)).trans c1;have c2:=(hinv.out.1.cell (p:=⟨hb,ho+z*2+1,none⟩) (zf c2)).trans c2;clear hc;have hsn:=zw5 eh z hzl
            have hall:ve eh=ve (eh.take (z+1))++ve (eh.drop (z+1)):=by
             unfold ve;rw[←List.flatMap_append,List.take_append_drop]
            generalize zb eh z=s at*;obtain⟨sx,sy⟩:=s;simp only at c1 c2 hsn
            have hV1:yj v=P++[er,em,d]++ve (eh.take z)++[sx]++([sy]++ve (eh.drop (z+1))++rest):=by
             rw[Hnum.out,Hst.out];simp only[ko,Hlv.out];rw[hall,hsn];simp
            have hV2:yj v=P++[er,em,d]++ve (eh.take z)++[sx]++[sy]++(ve (eh.drop (z+1))++rest):=by
             rw[hV1];simp
            have Hsn:=hid (show P++[er,em,d]++ve (eh.take z)++[sx]++[sy]=P++[er,em,d]++ve (eh.take (z+1)) from by rw[hsn];simp);have HV1:=hid hV1;have HV2:=hid hV2;obtain⟨b8,hb8⟩:∃b8,b8=wr.heap.size:=⟨_,rfl⟩;have hal:Below wr.heap.size wr (wr.alloc (.cells #[.int .u64 sx,.int .u64 sy] 135)):=(Below.refl _ _).alloc (Nat.le_refl _) _;have hrow8:(wr.alloc (.cells #[.int .u64 sx,.int .u64 sy] 135)).heap[b8]?=some (.cells #[.int .u64 sx,.int .u64 sy] 135):=by rw[hb8];exact qa rfl
            obtain⟨fn,tmps,assign,body,hy,hR⟩:=HY.out _ _ (wr.alloc (.cells #[.int .u64 sx,.int .u64 sy] 135)) ⟨_,hV1⟩ (HJ.out _ _ _ hinv.out.2.2 hal);have Hinv:=hid (show Below w0.heap.size w0 (wr.alloc (.cells #[.int .u64 sx,.int .u64 sy] 135))∧(wr.alloc (.cells #[.int .u64 sx,.int .u64 sy] 135)).heap[ba]?=some (.cells #[.slice (some ⟨bb,oo,none⟩) m c] 125) from⟨hinv.out.1.trans (hal.mono hinv.out.1.size),jv hinv.out.2.1⟩);have Hrow8:=hid hrow8;have Hb8:=hid hb8;have h0z:(0:Int)≤z:=by omega
            have h0d:(z:Int)<(d:Int):=by omega
            clear hV1 hV2 hsn hall hal hrow8 hb8
            gi_wp2
            first | refine hR.mono ?_ | refine⟨fun h=>(by cases h),hR.mono ?_⟩
            rintro e W4 (⟨rfl,hJ4,hk4⟩ | ⟨rfl,hJx4⟩)
            · have h48:=hk4.typed (.inl rfl) Hrow8.out;have y1:=ym (i:=1) h48 rfl;rw[Hb8.out] at y1;have H4:=hid (show Below w0.heap.size w0 W4∧W4.heap[ba]?=some (.cells #[.slice (some ⟨bb,oo,none⟩) m c] 125) from⟨Hinv.out.1.trans (hk4.toBelow Hinv.out.1.size),hk4.typed (.inr (.inr rfl)) Hinv.out.2⟩);obtain⟨fn2,tmps2,assign2,body2,hy2,hR2⟩:=HY.out _ _ W4 ⟨_,HV2.out⟩ hJ4;clear hk4 h48 hy hR hJ4 c1 c2
              gi_wp2
              first | refine hR2.mono ?_ | refine⟨fun h=>(by cases h),hR2.mono ?_⟩
              rintro e W5 (⟨rfl,hJ5,hk5⟩ | ⟨rfl,hJx5⟩)
              · have H5:=hid (show Below w0.heap.size w0 W5∧W5.heap[ba]?=some (.cells #[.slice (some ⟨bb,oo,none⟩) m c] 125)∧J (P++[er,em,d]++ve (eh.take (z+1))) W5 from⟨H4.out.1.trans (hk5.toBelow H4.out.1.size),hk5.typed (.inr (.inr rfl)) H4.out.2,by rw[←Hsn.out];exact hJ5⟩);clear hk5 hJ5 hy2 hR2 y1
                gi_wp2
                refine⟨⟨_,_,_,_,_,_,_,_,_,_,_,_,_,_,_,_,_,_,⟨z+1,by omega,?_,H5.out⟩,rfl⟩,?_⟩
                · go_num
                · simp[intOf];omega
              · have HX:=hid (show ∃pre,(∃rest,yj v=pre++rest)∧Jx pre W5 from⟨_,⟨_,HV2.out⟩,hJx5⟩);clear hJx5 hy2 hR2 y1
                gi_wp2
                go_wp2;refine bodyPost_ret (results_none rfl _ _ _) rfl ?_;exact⟨⟨_,rfl⟩,.inr HX.out⟩
            · have HX:=hid (show ∃pre,(∃rest,yj v=pre++rest)∧Jx pre W4 from⟨_,⟨_,HV1.out⟩,hJx4⟩);clear hJx4 hy hR c1 c2
              gi_wp2
              go_wp2;refine bodyPost_ret (results_none rfl _ _ _) rfl ?_;exact⟨⟨_,rfl⟩,.inr HX.out⟩
          · obtain rfl:z=d:=by omega
            have H5:=hid (show Below w0.heap.size w0 wr∧wr.heap[ba]?=some (.cells #[.slice (some ⟨bb,oo,none⟩) m c] 125)∧J (zbp v (k+1)) wr from⟨hinv.out.1,hinv.out.2.1,by
             have e:P++[er,em,z]++ve (eh.take z)=P1:=by
              rw[Hst.out,List.take_of_length_le (by rw[Hlv.out];exact Nat.le_refl _),List.append_assoc];simp only[ko,Hlv.out]
              rfl
             rw[HP1.out,←e];exact hinv.out.2.2⟩)
            clear hinv
            gi_wp2
            go_roundw
            case rel=>exact⟨k+1,by omega,by go_num,H5.out⟩
            case measure=>simp[intOf];omega
    · obtain rfl:k=m:=by omega
      have hJk:=hinv.out.2.2;rw[←Hlen.out,zw4] at hJk;have HJk:=hid hJk;clear hJk
      gi_wp2
      refine bodyPost_end (results_none rfl _ _ _) rfl ?_;exact⟨⟨_,rfl⟩,.inl ⟨_,rfl,HJk.out⟩⟩
 · have HX:=hid (show ∃pre,(∃rest,yj v=pre++rest)∧Jx pre W3 from⟨[]++[m],⟨v.flatMap ko,by unfold yj;rw[Hlen.out];rfl⟩,hJx3⟩)
   gi_wp2
   refine bodyPost_ret (results_none rfl _ _ _) rfl ?_;exact⟨⟨_,rfl⟩,.inr HX.out⟩
end
section
open Go.RowKit
theorem z9j (a:Option Addr) (n c p:Nat) (hs:List Iv) (w:World) (hI:Ivs w a n c hs) (hD:Door w) (hp:w.cell? ⟨p,2,none⟩=some (.slice a n c)):
 Calls Tryz.prog 280 #[.pointer (some ⟨p,0,none⟩)] w fun e w'=>e=.returned (zy (qk (ck hs)))∧Below w.heap.size w w':=by
 have hC:=hid (zw7 a n c hs w hI hD);clear hI hD;go_enter Tryz.func280,Tryz.ntmps280;go_wp2_with fail;refine hC.out.mono ?_;rintro e w1 ⟨rfl,hb1⟩;have Hb1:=hid hb1;clear hb1;go_wp2;go_ret;exact⟨rfl,Hb1.out⟩
set_option maxRecDepth 20000 in
theorem z9k (a:Option Addr) (n c p r m:Nat) (hs:List Iv) (w:World) (hI:Ivs w a n c hs) (hp:w.cell? ⟨p,2,none⟩=some (.slice a n c)) (hq:w.cell? ⟨p,1,none⟩=some (.int .u64 m)):
 Calls Tryz.prog 279 #[.pointer (some ⟨p,0,none⟩)] w fun e w'=>e=.returned (zy (qk (j7 (zdt (r,m,hs)) hs.length)))∧Below w.heap.size w w':=by
 have HI:=hid hI;have Hl:=hid hI.len;have hnm:n≤9223372036854775807:=Nat.le_trans hI.room hI.most;have Hq2:=hid (fun w' (h:Below w.heap.size w w')=>(h.cell (p:=⟨p,1,none⟩) (zf hq)).trans hq);clear hI;go_enter Tryz.func279,Tryz.ntmps279;go_wp2;clear hp hq;go_loopw [2,3,7] (fun _ _ i wr=>∃k:Nat,k≤n∧i=.int .i64 k∧Below w.heap.size w wr∧Hid (∀j,j<k→zdt (r,m,hs) j=none)) (fun _ _ i _=>n - (intOf i).toNat)
 case atStart=>exact⟨0,by omega,rfl,Below.refl _ _,fun j h=>by omega⟩
 case round=>
  obtain⟨k,hk,rfl,hb,ht⟩:=hrel;have Hb:=hid hb;clear hb;by_cases hkn:k<n
  · obtain⟨cb,co,rfl,hcell⟩:=(HI.out.below Hb.out).cells (by omega);obtain⟨c1,c2⟩:=hcell k hkn;have hq:=Hq2.out _ Hb.out;clear hcell;have h0:(0:Int)≤k:=by omega
    have h04:(k:Int)<(n:Int):=by omega
    have Hh:=hid (show zdt (r,m,hs) k=if m<(zb hs k).2 then some (4,k) else none from rfl);have hkl:k<hs.length:=by rw[Hl.out];exact hkn
    generalize zb hs k=s at*;obtain⟨x,u⟩:=s;simp only at c1 c2 Hh;have hal:Below wr.heap.size wr (wr.alloc (.cells #[.int .u64 x,.int .u64 u] 135)):=(Below.refl _ _).alloc (Nat.le_refl _) _;have hq2:=(hal.cell (p:=⟨p,1,none⟩) (zf hq)).trans hq;have Hal:=hid (Hb.out.trans (hal.mono Hb.out.size));clear hal;by_cases hu:m<u
    · have hd1:decide ((m:Int)<(u:Int))=true:=by rw[decide_eq_true_iff];omega
      have hd2:decide (m<u)=true:=by rw[decide_eq_true_iff];omega
      have Hr:=hid (zbb hkl ht.out (Hh.out.trans (if_pos hu)));clear hu;go_wp2_with fail;refine(zaf 4 k _).mono ?_;rintro e w3 ⟨rfl,rfl⟩;go_wp2;go_ret;exact⟨by rw[Hr.out];rfl,by first | exact Hal.out | exact z7 Hal.out _⟩
    · have hd1:decide ((m:Int)<(u:Int))=false:=by rw[decide_eq_false_iff_not];omega
      have hd2:decide (m<u)=false:=by rw[decide_eq_false_iff_not];omega
      have Hr:=hid (zdb ht.out (Hh.out.trans (if_neg hu)));clear hu;go_wp2;go_roundw
      case rel=>exact⟨k+1,by omega,by go_num,by first | exact Hal.out | exact z7 Hal.out _,Hr.out⟩
      case measure=>simp[intOf];omega
  · obtain rfl:k=n:=by omega
    have Hr:=hid (zbs (n:=hs.length) (fun j hj=>ht.out j (by rw[←Hl.out];exact hj)));go_wp2;go_ret;exact⟨by rw[Hr.out];rfl,Hb.out⟩
set_option maxRecDepth 20000 in
theorem zxi (e:Ent) (a:Option Addr) (n c:Nat) (w:World) (hI:Ivs w a n c e.2.2) (hD:Door w):
 Calls Tryz.prog 237 #[zbm e (.slice a n c)] w fun y w'=>y=.returned (zy (qk (ckE e)))∧Below w.heap.size w w':=by
 obtain⟨r,m,hs⟩:=e;simp only at hI;have hal:Below w.heap.size w (w.alloc (.cells #[.int .u64 r,.int .u64 m,.slice a n c] 137)):=(Below.refl w.heap.size w).alloc (Nat.le_refl _) _;have hq:=zd7 w (.int .u64 r) (.int .u64 m) (.slice a n c) 137
 have hC2:=hid (fun w' (h:Below (w.alloc (.cells #[.int .u64 r,.int .u64 m,.slice a n c] 137)).heap.size (w.alloc (.cells #[.int .u64 r,.int .u64 m,.slice a n c] 137)) w')=>
  z9j a n c w.heap.size hs w' (hI.below (hal.trans (h.mono hal.size))) (hD.below (Nat.le_refl _) (hal.trans (h.mono hal.size))) (hq w' h).2.2)
 have hC1:=hid (fun w' (h:Below (w.alloc (.cells #[.int .u64 r,.int .u64 m,.slice a n c] 137)).heap.size (w.alloc (.cells #[.int .u64 r,.int .u64 m,.slice a n c] 137)) w')=>
  z9k a n c w.heap.size r m hs w' (hI.below (hal.trans (h.mono hal.size))) (hq w' h).2.2 (hq w' h).2.1)
 have Hal:=hid hal;have Hck:=hid (show ckE (r,m,hs)=match ck hs with | some x=>some x | none=>j7 (zdt (r,m,hs)) hs.length from rfl);clear hI hD hal hq;go_enter Tryz.func237,Tryz.ntmps237;go_wp2;obtain⟨fs,hfs⟩:∃fs:Obj,fs=.cells #[.func (.func 280) #[] #[.pointer (some ⟨w.heap.size,0,none⟩)],.func (.func 279) #[] #[.pointer (some ⟨w.heap.size,0,none⟩)]] 39:=⟨_,rfl⟩;have hb0:Below (w.alloc (.cells #[.int .u64 r,.int .u64 m,.slice a n c] 137)).heap.size (w.alloc (.cells #[.int .u64 r,.int .u64 m,.slice a n c] 137)) ((w.alloc (.cells #[.int .u64 r,.int .u64 m,.slice a n c] 137)).alloc fs):=(Below.refl _ _).alloc (Nat.le_refl _) _;have hrow:((w.alloc (.cells #[.int .u64 r,.int .u64 m,.slice a n c] 137)).alloc fs).heap[w.heap.size+1]?=some fs:=qa (by simp);have hsz:((w.alloc (.cells #[.int .u64 r,.int .u64 m,.slice a n c] 137)).alloc fs).heap.size=w.heap.size+2:=by simp
 rw[←hfs];generalize (w.alloc (.cells #[.int .u64 r,.int .u64 m,.slice a n c] 137)).alloc fs=W2 at*;have Hb0:=hid hb0;have Hz:=hid hb0.size
 have Hfn:=hid (show ∀w',Below W2.heap.size W2 w'→w'.cell? ⟨w.heap.size+1,0,none⟩=some (.func (.func 280) #[] #[.pointer (some ⟨w.heap.size,0,none⟩)])∧w'.cell? ⟨w.heap.size+1,1,none⟩=some (.func (.func 279) #[] #[.pointer (some ⟨w.heap.size,0,none⟩)]) from fun w' h=>by
  have hr:w'.heap[w.heap.size+1]?=some fs:=(h.block _ (by omega)).trans hrow;rw[hfs] at hr;exact⟨ym (i:=0) hr rfl,ym (i:=1) hr rfl⟩)
 clear hb0 hrow hsz hfs;go_loopw [5,6,12] (fun _ _ i wr=>Below W2.heap.size W2 wr∧Hid (i=.int .i64 0∨(i=.int .i64 1∧ck hs=none)∨(i=.int .i64 2∧ck hs=none∧j7 (zdt (r,m,hs)) hs.length=none))) (fun _ _ i _=>2 - (intOf i).toNat)
 case atStart=>exact⟨Below.refl _ _,.inl rfl⟩
 case round=>
  obtain⟨hb,hi⟩:=hrel;have Hb:=hid hb;clear hb;have Hbw:=hid (Hb0.out.trans (Hb.out.mono Hz.out));have Hbz:=hid (Hal.out.trans (Hbw.out.mono Hal.out.size));obtain⟨f1,f2⟩:=Hfn.out _ Hb.out;rcases hi.out with rfl | ⟨rfl,h1⟩ | ⟨rfl,h1,h2⟩
  · have hC:=hid (hC2.out wr Hbw.out)
    cases h:ck hs with
    | none=>
     rw[h] at hC;simp only[qk,zy] at hC;have Hn:=hid h;clear h hi;go_wp2_with fail;refine hC.out.mono ?_;rintro e w1 ⟨rfl,hb1⟩;have Hb1:=hid (Hb.out.trans (hb1.mono Hb.out.size));clear hb1;go_wp2;go_roundw
     case rel=>exact⟨Hb1.out,.inr (.inl ⟨by go_num,trivial⟩)⟩
     case measure=>simp[intOf]
    | some x=>
     obtain⟨cd,ci⟩:=x;rw[h] at hC Hck;simp only[qk,zy] at hC Hck;clear h hi;go_wp2_with fail;refine hC.out.mono ?_;rintro e w1 ⟨rfl,hb1⟩;have Hb1:=hid (Hbz.out.trans (hb1.mono Hbz.out.size));clear hb1;go_wp2;go_ret;exact⟨by rw[Hck.out];rfl,Hb1.out⟩
  · have hC:=hid (hC1.out wr Hbw.out);rw[h1] at Hck;simp only at Hck
    cases h:j7 (zdt (r,m,hs)) hs.length with
    | none=>
     rw[h] at hC;simp only[qk,zy] at hC;have Hn:=hid (And.intro h1 h);clear h hi h1;go_wp2_with fail;refine hC.out.mono ?_;rintro e w1 ⟨rfl,hb1⟩;have Hb1:=hid (Hb.out.trans (hb1.mono Hb.out.size));clear hb1;go_wp2;go_roundw
     case rel=>exact⟨Hb1.out,.inr (.inr ⟨by go_num,Hn.out.1,trivial⟩)⟩
     case measure=>simp[intOf]
    | some x=>
     obtain⟨cd,ci⟩:=x;rw[h] at hC Hck;simp only[qk,zy] at hC;clear h hi h1;go_wp2_with fail;refine hC.out.mono ?_;rintro e w1 ⟨rfl,hb1⟩;have Hb1:=hid (Hbz.out.trans (hb1.mono Hbz.out.size));clear hb1;go_wp2;go_ret;exact⟨by rw[Hck.out];rfl,Hb1.out⟩
  · rw[h1] at Hck;simp only at Hck;rw[h2] at Hck;clear h1 h2 hi;go_wp2;go_ret;exact⟨by rw[Hck.out];rfl,Hbz.out⟩
