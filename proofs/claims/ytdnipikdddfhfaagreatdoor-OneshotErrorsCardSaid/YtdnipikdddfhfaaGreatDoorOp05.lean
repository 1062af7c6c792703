/- Part 05. -/
import Derived.Test.YtdnipikdddfhfaaGreatDoorOp04
set_option linter.unusedVariables false
set_option maxHeartbeats 16000000
namespace Go.Proofs.YtdnipikdddfhfaaGreatDoor
open Lib (hid)
section
open Go.RowKit Go.Shelf
def zjl {α:Type} (n:Nat) (P:Program) (g:Nat) (lb:Array Value) (encs:α→Array Value) (V S:List α→Prop) (R p:Nat→Prop) (w:World):Prop:=
 ∀(l:Nat) (J Jx:List α→World→Prop) (W:World),w.heap.size≤l→Below w.heap.size w W→
  (∀s A B,J s A→Kept (fun k=>¬R k) A B→J s B)→(∀s A B,Jx s A→Kept (fun k=>¬R k) A B→Jx s B)→
  (∀pre x W1,V (pre++[x])→J pre W1→YieldAt Fence.wide (n - 1) P l (encs x) W1 fun e W'=>
    (e=.returned (.bool true)∧J (pre++[x]) W'∧Kept p W1 W')∨(e=.returned (.bool false)∧Jx (pre++[x]) W'))→
  J [] W→
  CallsIn Fence.wide n P g (#[.func (.yield l) #[] #[]]++lb) W fun e W'=>(∃v,e=.returned v)∧((∃xs,S xs∧J xs W')∨(∃pre,V pre∧Jx pre W'))
def zqc {α:Type} (D:Nat) (p:Nat→Prop) (I:List α→World→Prop) (Ix:Code→List α→World→Prop) (xs:List α) (W:World):Exit→Act→World→Prop
 | .normal,_,W'=>Kept (fun k=>p k∨k=D∨k=D+1) W W'∧I xs W'
 | .ret,_,W'=>Kept (fun k=>k=D∨k=D+1) W W'∧Ix .ret xs W'
 | .exit id,_,W'=>Kept (fun k=>k=D∨k=D+1) W W'∧Ix (.exit id) xs W'
 | .goto t,_,W'=>Kept (fun k=>k=D∨k=D+1) W W'∧Ix (.goto t) xs W'
 | .panic _,_,_=>False
 | .outgrown,_,_=>False
theorem zqd {α:Type} {n:Nat} {P:Program} {g:Operand} {ps:Array Tmp} {assign body:Code} {Q:Exit→Act→World→Prop} {a:Act} {w:World}
 {gf:Nat} {lb:Array Value} (hg:a.eval g=.func (.func gf) #[] lb) (eg:∀args w,(callFunc gf args).run P w=.ok (.enter gf args) w)
 {encs:α→Array Value} {V S:List α→Prop} {R p:Nat→Prop} (hseq:zjl (n - 1) P gf lb encs V S R p w) (hps:∀x,(encs x).size=ps.size)
 (hR:∀k,R k→k<w.heap.size) (hp:∀k,p k→k<w.heap.size)
 (I:List α→World→Prop) (Ix:Code→List α→World→Prop)
 (hI:∀s A B,I s A→Kept (fun k=>¬R k∧k≠w.heap.size∧k≠w.heap.size+1) A B→I s B)
 (hIx:∀c s A B,Ix c s A→Kept (fun k=>¬R k∧k≠w.heap.size∧k≠w.heap.size+1) A B→Ix c s B)
 (h0:I [] w)
 (hround:∀pre x W,V (pre++[x])→I pre W→w.heap.size+2≤W.heap.size→
   assign.wpIn (Fence.wide.inRound (w.heap.size+1)) (n - 1 - 1) P (Exit.then (fun a₁ W₁=>Kept (fun k=>p k∨k=w.heap.size∨k=w.heap.size+1) W W₁∧
    ∀W₂,Kept (fun k=>k≠w.heap.size+1) W₁ W₂→W₂.heap.size=W₁.heap.size→body.wpIn (Fence.wide.inRound (w.heap.size+1)) (n - 1 - 1) P (zqc w.heap.size p I Ix (pre++[x]) W₂) a₁ W₂) (fun _ _ _=>False))
    { tmps:=(ps.zip (encs x)).foldl (fun t (u,v)=>t.setIfInBounds u v) a.tmps,defers:=[] } W)
 (hdone:∀(xs:List α) (W:World),S xs→I xs W→W.heap[w.heap.size]?=some (.deferred (some []))→Q .normal { a with defers:={ target:=.collected w.heap.size,args:= #[] } :: a.defers } W)
 (hstop:∀(c:Code) (pre:List α) (W:World),V pre→Ix c pre W→W.heap[w.heap.size]?=some (.deferred (some []))→c.wpIn Fence.wide n P Q { a with defers:={ target:=.collected w.heap.size,args:= #[] } :: a.defers } W):
 (Code.rangeFunc g ps assign body).wpIn Fence.wide n P Q a w:=by
 refine wpIn_rangeFunc fun fn hfn=>?_
 obtain⟨D,hD⟩:∃D,D=w.heap.size:=⟨_,rfl⟩;obtain⟨rec,hrec⟩:∃rec:LoopState→Option Code→Loop,rec=fun st pe=>{ state:=st,pending:=pe,fn,tmps:=a.tmps,params:=ps,assign,body,defers:=D }:=⟨_,rfl⟩
 obtain⟨W1,hW1⟩:∃W1,(w.alloc (.deferred (some []))).alloc (.loop (rec .ready none))=W1:=⟨_,rfl⟩;have hsize:W1.heap.size=D+2:=by rw[←hW1,hD];simp
 have hL:W1.heap[D+1]?=some (.loop (rec .ready none)):=by
  rw[←hW1,hD];have h:=World.alloc_heap_new (w.alloc (.deferred (some []))) (.loop (rec .ready none));rwa [World.size_alloc] at h
 have hK:W1.heap[D]?=some (.deferred (some [])):=by
  rw[←hW1,hD];exact(Below.heap_alloc _ _ _ (by simp)).trans (World.alloc_heap_new w _)
 have hkW:Kept (fun _=>True) w W1:=by rw[←hW1];exact((Kept.refl _ w).alloc _).alloc _
 have hI1:I [] W1:=hI _ _ _ h0 (hkW.mono fun _ _ _=>trivial)
 refine⟨D+1,[{ target:=.collected D,args:= #[] }],W1,{ target:=.fn (.func gf) lb,args:= #[.func (.yield (D+1)) #[] #[]] },W1,gf,
  #[.func (.yield (D+1)) #[] #[]]++lb,W1,?_,?_,fun _ _=>trivial,?_,(fun h=>by cases h),?_⟩
 · rw[←hW1,hrec,hD];exact run_enterLoop_outer _ _ _ _ _
 · simp only[resolve,hg];simp[go_sem]
 · simp[invoke,go_sem,eg]
 have hbook:∀{A B:World},Kept (fun k=>¬R k) A B→Kept (fun k=>¬R k∧k≠w.heap.size∧k≠w.heap.size+1) A B:=fun h=>h.mono fun k _ hk=>hk.1
 have hnR:¬R D∧¬R (D+1):=⟨fun h=>by have:=hR _ h;omega,fun h=>by have:=hR _ h;omega⟩;have hnp:¬p D∧¬p (D+1):=⟨fun h=>by have:=hp _ h;omega,fun h=>by have:=hp _ h;omega⟩
 have hrow:∀{A B:World} {k:Nat} {o:Obj} {u:Nat→Prop},Kept u A B→u k→A.heap[k]?=some o→B.heap[k]?=some o:=fun h hu ho=>
  (h.row _ (Array.getElem?_eq_some_iff.1 ho).1 hu).trans ho
 have hturn:∀{s:List α} {A:World} {o:Obj},I s A→I s (A.putObj (D+1) o):=fun {s A o} h=>hI _ _ _ h ((Kept.refl _ A).putObj (fun _ e=>e.2.2 (by rw[hD])) o)
 have hturnx:∀{c:Code} {s:List α} {A:World} {o:Obj},Ix c s A→Ix c s (A.putObj (D+1) o):=fun {c s A o} h=>hIx _ _ _ _ h ((Kept.refl _ A).putObj (fun _ e=>e.2.2 (by rw[hD])) o)
 refine(hseq (D+1)
  (fun pre W=>I pre W∧W.heap[D+1]?=some (.loop (rec .ready none))∧W.heap[D]?=some (.deferred (some []))∧D+2≤W.heap.size)
  (fun pre W=>∃c,Ix c pre W∧W.heap[D+1]?=some (.loop (rec .done (some c)))∧W.heap[D]?=some (.deferred (some [])))
  W1 (by omega) (hkW.toBelow (fun _ _=>trivial) (Nat.le_refl _))
  (fun s A B hs h=>⟨hI _ _ _ hs.1 (hbook h),hrow h hnR.2 hs.2.1,hrow h hnR.1 hs.2.2.1,Nat.le_trans hs.2.2.2 h.size⟩)
  (fun s A B hs h=>by obtain⟨c,h1,h2,h3⟩:=hs;exact⟨c,hIx _ _ _ _ h1 (hbook h),hrow h hnR.2 h2,hrow h hnR.1 h3⟩)
  ?_ ⟨hI1,hL,hK,by omega⟩).mono ?_
 · rintro pre x W hV ⟨hi,hl,hk,hsz⟩;have hy:=run_yield (P:=P) (args:=encs x) hl (by rw[hrec];exact hps x);rw[hrec] at hy;refine⟨fn,_,assign,body,hy,roundIn_of_wpIn hfn ?_⟩;rw[hD];refine wpIn_mono (hround pre x W hV hi (by omega)) ?_;rintro e a₁ Wa hq
   cases e with
   | normal=>
    obtain⟨hka,hbody⟩:=hq;have hl1:Wa.heap[D+1]?=some (.loop (rec .ready none)):=hrow hka (by rw[hD];exact .inr (.inr rfl)) hl;have hk1:Wa.heap[D]?=some (.deferred (some [])):=hrow hka (by rw[hD];exact .inr (.inl rfl)) hk;rw[←hD];refine⟨_,run_beginRound hl1 (by rw[hrec]),?_⟩;obtain⟨Wb,hWb⟩:∃Wb,Wb=Wa.putObj (D+1) (.loop { rec .ready none with state:=.busy }):=⟨_,rfl⟩;rw[←hWb];have hlt:D+1<Wa.heap.size:=(Array.getElem?_eq_some_iff.1 hl1).1;have hl2:Wb.heap[D+1]?=some (.loop { rec .ready none with state:=.busy }):=by rw[hWb];exact World.putObj_heap_same hlt
    have hk2:Wb.heap[D]?=some (.deferred (some [])):=by rw[hWb];exact(World.putObj_heap_other (by omega)).trans hk1
    have hab:Kept (fun k=>k≠w.heap.size+1) Wa Wb:=by rw[hWb];exact(Kept.refl _ Wa).putObj (fun _ e=>e (by rw[hD])) _
    have hb2:=hbody Wb hab (by rw[hWb];simp);rw[←hD] at hb2;refine wpIn_mono hb2 ?_
    have fin:∀(jump:Option Code) (W3:World),Kept (fun k=>k=D∨k=D+1) Wb W3→
     (Instr.endRound (D+1) jump).run P W3=.ok (.bool jump.isNone) (W3.putObj (D+1) (.loop (rec (if jump.isNone then .ready else .done) jump)))∧
     (W3.putObj (D+1) (.loop (rec (if jump.isNone then .ready else .done) jump))).heap[D+1]?=some (.loop (rec (if jump.isNone then .ready else .done) jump))∧
     (W3.putObj (D+1) (.loop (rec (if jump.isNone then .ready else .done) jump))).heap[D]?=some (.deferred (some []))∧D+2≤W3.heap.size:=by
     intro jump W3 h3;have hl3:=hrow h3 (.inr rfl) hl2;have hk3:=hrow h3 (.inl rfl) hk2;have hlt3:=(Array.getElem?_eq_some_iff.1 hl3).1;have hr:=run_endRound (P:=P) jump hl3;rw[hrec] at hr ⊢;exact⟨hr,World.putObj_heap_same hlt3,(World.putObj_heap_other (by omega)).trans hk3,by omega⟩
    have small:∀{W3:World},Kept (fun k=>p k∨k=D∨k=D+1) Wb W3→Kept (fun k=>k=D∨k=D+1) Wb W3:=fun h=>h.mono fun _ _ hk=>.inr hk
    rintro e a3 W3 hp3
    cases e with
    | normal=>
     obtain⟨h3,hi3⟩:=hp3;obtain⟨e1,e2,e3,e4⟩:=fin none W3 (small h3);refine⟨_,_,e1,.inl ⟨rfl,⟨hturn hi3,e2,e3,by simpa using e4⟩,?_⟩⟩;have k1:Kept p W Wa:=hka.mono fun _ _ hk=>.inl hk
     have k2:Kept p Wa Wb:=hab.mono fun k _ hk e=>hnp.2 (by rw[hD];exact e ▸ hk)
     have k3:Kept p Wb W3:=h3.mono fun _ _ hk=>.inl hk
     exact((k1.trans k2).trans k3).putObj (fun _ hk=>hnp.2 hk) _
    | ret=>
     obtain⟨h3,hi3⟩:=hp3;obtain⟨e1,e2,e3,_⟩:=fin (some .ret) W3 h3
     exact⟨_,_,e1,.inr ⟨rfl,.ret,hturnx hi3,e2,e3⟩⟩
    | exit id=>
     obtain⟨h3,hi3⟩:=hp3;obtain⟨e1,e2,e3,_⟩:=fin (some (.exit id)) W3 h3
     exact⟨_,_,e1,.inr ⟨rfl,.exit id,hturnx hi3,e2,e3⟩⟩
    | goto t=>
     obtain⟨h3,hi3⟩:=hp3;obtain⟨e1,e2,e3,_⟩:=fin (some (.goto t)) W3 h3
     exact⟨_,_,e1,.inr ⟨rfl,.goto t,hturnx hi3,e2,e3⟩⟩
    | panic ch=>exact hp3.elim
    | outgrown=>exact hp3.elim
   | exit id=>exact hq.elim
   | goto t=>exact hq.elim
   | ret=>exact hq.elim
   | panic ch=>exact hq.elim
   | outgrown=>exact hq.elim
 · rintro e W2 ⟨⟨v,rfl⟩,(⟨xs,hS,hi,hl,hk,_⟩ | ⟨pre,hV,c,hi,hl,hk⟩)⟩
   · have hr:=run_endLoop (P:=P) hl (by rw[hrec];simp);rw[hrec] at hr;refine⟨none,_,hr,?_⟩;have:=hdone xs _ hS (hturn hi (o:=.loop { rec .ready none with state:=.exhausted })) (by rw[←hD];exact(World.putObj_heap_other (by omega)).trans hk);rw[hrec] at this;rw[hD] at this ⊢;exact this
   · have hr:=run_endLoop (P:=P) hl (by rw[hrec];simp);rw[hrec] at hr;refine⟨some c,_,hr,?_⟩;have:=hstop c pre _ hV (hturnx hi (o:=.loop { rec .done (some c) with state:=.exhausted })) (by rw[←hD];exact(World.putObj_heap_other (by omega)).trans hk);rw[hrec] at this;rw[hD] at this ⊢;exact this
def zjm {α:Type} (n:Nat) (P:Program) (g:Nat) (lb:Array Value) (encs:α→Array Value) (V S:List α→Prop) (R:Nat→Prop) (Rel:World→World→Prop) (w:World):Prop:=
 ∀(l:Nat) (J Jx:List α→World→Prop) (W:World),w.heap.size≤l→Below w.heap.size w W→
  (∀s A B,J s A→Kept (fun k=>¬R k) A B→J s B)→(∀s A B,Jx s A→Kept (fun k=>¬R k) A B→Jx s B)→
  (∀pre x W1,V (pre++[x])→J pre W1→YieldAt Fence.wide (n - 1) P l (encs x) W1 fun e W'=>
    (e=.returned (.bool true)∧J (pre++[x]) W'∧Rel W1 W')∨(e=.returned (.bool false)∧Jx (pre++[x]) W'))→
  J [] W→
  CallsIn Fence.wide n P g (#[.func (.yield l) #[] #[]]++lb) W fun e W'=>(∃v,e=.returned v)∧((∃xs,S xs∧J xs W')∨(∃pre,V pre∧Jx pre W'))
def zqe {α:Type} (D:Nat) (Rel:World→World→Prop) (I:List α→World→Prop) (Ix:Code→List α→World→Prop) (xs:List α) (W0 W:World):Exit→Act→World→Prop
 | .normal,_,W'=>Kept (fun k=>k=D∨k=D+1) W W'∧I xs W'∧Rel W0 W'
 | .ret,_,W'=>Kept (fun k=>k=D∨k=D+1) W W'∧Ix .ret xs W'
 | .exit id,_,W'=>Kept (fun k=>k=D∨k=D+1) W W'∧Ix (.exit id) xs W'
 | .goto t,_,W'=>Kept (fun k=>k=D∨k=D+1) W W'∧Ix (.goto t) xs W'
 | .panic _,_,_=>False
 | .outgrown,_,_=>False
theorem zqf {α:Type} {n:Nat} {P:Program} {g:Operand} {ps:Array Tmp} {assign body:Code} {Q:Exit→Act→World→Prop} {a:Act} {w:World}
 {gf:Nat} {lb:Array Value} (hg:a.eval g=.func (.func gf) #[] lb) (eg:∀args w,(callFunc gf args).run P w=.ok (.enter gf args) w)
 {encs:α→Array Value} {V S:List α→Prop} {R:Nat→Prop} {Rel:World→World→Prop} (hseq:zjm (n - 1) P gf lb encs V S R Rel w) (hps:∀x,(encs x).size=ps.size)
 (hR:∀k,R k→k<w.heap.size) (hput:∀(A B:World) (r:Loop) (o:Obj),A.heap[w.heap.size+1]?=some (.loop r)→Rel A B→Rel A (B.putObj (w.heap.size+1) o))
 (I:List α→World→Prop) (Ix:Code→List α→World→Prop)
 (hI:∀s A B,I s A→Kept (fun k=>¬R k∧k≠w.heap.size∧k≠w.heap.size+1) A B→I s B)
 (hIx:∀c s A B,Ix c s A→Kept (fun k=>¬R k∧k≠w.heap.size∧k≠w.heap.size+1) A B→Ix c s B)
 (h0:I [] w)
 (hround:∀pre x W,V (pre++[x])→I pre W→w.heap.size+2≤W.heap.size→(∃r,W.heap[w.heap.size+1]?=some (.loop r))→
   assign.wpIn (Fence.wide.inRound (w.heap.size+1)) (n - 1 - 1) P (Exit.then (fun a₁ W₁=>Kept (fun k=>k=w.heap.size∨k=w.heap.size+1) W W₁∧
    ∀W₂,Kept (fun k=>k≠w.heap.size+1) W₁ W₂→W₂.heap.size=W₁.heap.size→body.wpIn (Fence.wide.inRound (w.heap.size+1)) (n - 1 - 1) P (zqe w.heap.size Rel I Ix (pre++[x]) W W₂) a₁ W₂) (fun _ _ _=>False))
    { tmps:=(ps.zip (encs x)).foldl (fun t (u,v)=>t.setIfInBounds u v) a.tmps,defers:=[] } W)
 (hdone:∀(xs:List α) (W:World),S xs→I xs W→W.heap[w.heap.size]?=some (.deferred (some []))→Q .normal { a with defers:={ target:=.collected w.heap.size,args:= #[] } :: a.defers } W)
 (hstop:∀(c:Code) (pre:List α) (W:World),V pre→Ix c pre W→W.heap[w.heap.size]?=some (.deferred (some []))→c.wpIn Fence.wide n P Q { a with defers:={ target:=.collected w.heap.size,args:= #[] } :: a.defers } W):
 (Code.rangeFunc g ps assign body).wpIn Fence.wide n P Q a w:=by
 refine wpIn_rangeFunc fun fn hfn=>?_
 obtain⟨D,hD⟩:∃D,D=w.heap.size:=⟨_,rfl⟩;obtain⟨rec,hrec⟩:∃rec:LoopState→Option Code→Loop,rec=fun st pe=>{ state:=st,pending:=pe,fn,tmps:=a.tmps,params:=ps,assign,body,defers:=D }:=⟨_,rfl⟩
 obtain⟨W1,hW1⟩:∃W1,(w.alloc (.deferred (some []))).alloc (.loop (rec .ready none))=W1:=⟨_,rfl⟩;have hsize:W1.heap.size=D+2:=by rw[←hW1,hD];simp
 have hL:W1.heap[D+1]?=some (.loop (rec .ready none)):=by
  rw[←hW1,hD];have h:=World.alloc_heap_new (w.alloc (.deferred (some []))) (.loop (rec .ready none));rwa [World.size_alloc] at h
 have hK:W1.heap[D]?=some (.deferred (some [])):=by
  rw[←hW1,hD];exact(Below.heap_alloc _ _ _ (by simp)).trans (World.alloc_heap_new w _)
 have hkW:Kept (fun _=>True) w W1:=by rw[←hW1];exact((Kept.refl _ w).alloc _).alloc _
 have hI1:I [] W1:=hI _ _ _ h0 (hkW.mono fun _ _ _=>trivial)
 refine⟨D+1,[{ target:=.collected D,args:= #[] }],W1,{ target:=.fn (.func gf) lb,args:= #[.func (.yield (D+1)) #[] #[]] },W1,gf,
  #[.func (.yield (D+1)) #[] #[]]++lb,W1,?_,?_,fun _ _=>trivial,?_,(fun h=>by cases h),?_⟩
 · rw[←hW1,hrec,hD];exact run_enterLoop_outer _ _ _ _ _
 · simp only[resolve,hg];simp[go_sem]
 · simp[invoke,go_sem,eg]
 have hbook:∀{A B:World},Kept (fun k=>¬R k) A B→Kept (fun k=>¬R k∧k≠w.heap.size∧k≠w.heap.size+1) A B:=fun h=>h.mono fun k _ hk=>hk.1
 have hnR:¬R D∧¬R (D+1):=⟨fun h=>by have:=hR _ h;omega,fun h=>by have:=hR _ h;omega⟩
 have hrow:∀{A B:World} {k:Nat} {o:Obj} {u:Nat→Prop},Kept u A B→u k→A.heap[k]?=some o→B.heap[k]?=some o:=fun h hu ho=>
  (h.row _ (Array.getElem?_eq_some_iff.1 ho).1 hu).trans ho
 have hturn:∀{s:List α} {A:World} {o:Obj},I s A→I s (A.putObj (D+1) o):=fun {s A o} h=>hI _ _ _ h ((Kept.refl _ A).putObj (fun _ e=>e.2.2 (by rw[hD])) o)
 have hturnx:∀{c:Code} {s:List α} {A:World} {o:Obj},Ix c s A→Ix c s (A.putObj (D+1) o):=fun {c s A o} h=>hIx _ _ _ _ h ((Kept.refl _ A).putObj (fun _ e=>e.2.2 (by rw[hD])) o)
 refine(hseq (D+1)
  (fun pre W=>I pre W∧W.heap[D+1]?=some (.loop (rec .ready none))∧W.heap[D]?=some (.deferred (some []))∧D+2≤W.heap.size)
  (fun pre W=>∃c,Ix c pre W∧W.heap[D+1]?=some (.loop (rec .done (some c)))∧W.heap[D]?=some (.deferred (some [])))
  W1 (by omega) (hkW.toBelow (fun _ _=>trivial) (Nat.le_refl _))
  (fun s A B hs h=>⟨hI _ _ _ hs.1 (hbook h),hrow h hnR.2 hs.2.1,hrow h hnR.1 hs.2.2.1,Nat.le_trans hs.2.2.2 h.size⟩)
  (fun s A B hs h=>by obtain⟨c,h1,h2,h3⟩:=hs;exact⟨c,hIx _ _ _ _ h1 (hbook h),hrow h hnR.2 h2,hrow h hnR.1 h3⟩)
  ?_ ⟨hI1,hL,hK,by omega⟩).mono ?_
 · rintro pre x W hV ⟨hi,hl,hk,hsz⟩;have hy:=run_yield (P:=P) (args:=encs x) hl (by rw[hrec];exact hps x);rw[hrec] at hy;refine⟨fn,_,assign,body,hy,roundIn_of_wpIn hfn ?_⟩;rw[hD];refine wpIn_mono (hround pre x W hV hi (by omega) ⟨_,by rw[←hD];exact hl⟩) ?_;rintro e a₁ Wa hq
   cases e with
   | normal=>
    obtain⟨hka,hbody⟩:=hq;have hl1:Wa.heap[D+1]?=some (.loop (rec .ready none)):=hrow hka (by rw[hD];exact .inr rfl) hl;have hk1:Wa.heap[D]?=some (.deferred (some [])):=hrow hka (by rw[hD];exact .inl rfl) hk;rw[←hD];refine⟨_,run_beginRound hl1 (by rw[hrec]),?_⟩;obtain⟨Wb,hWb⟩:∃Wb,Wb=Wa.putObj (D+1) (.loop { rec .ready none with state:=.busy }):=⟨_,rfl⟩;rw[←hWb];have hlt:D+1<Wa.heap.size:=(Array.getElem?_eq_some_iff.1 hl1).1;have hl2:Wb.heap[D+1]?=some (.loop { rec .ready none with state:=.busy }):=by rw[hWb];exact World.putObj_heap_same hlt
    have hk2:Wb.heap[D]?=some (.deferred (some [])):=by rw[hWb];exact(World.putObj_heap_other (by omega)).trans hk1
    have hab:Kept (fun k=>k≠w.heap.size+1) Wa Wb:=by rw[hWb];exact(Kept.refl _ Wa).putObj (fun _ e=>e (by rw[hD])) _
    have hb2:=hbody Wb hab (by rw[hWb];simp);rw[←hD] at hb2;refine wpIn_mono hb2 ?_
    have fin:∀(jump:Option Code) (W3:World),Kept (fun k=>k=D∨k=D+1) Wb W3→
     (Instr.endRound (D+1) jump).run P W3=.ok (.bool jump.isNone) (W3.putObj (D+1) (.loop (rec (if jump.isNone then .ready else .done) jump)))∧
     (W3.putObj (D+1) (.loop (rec (if jump.isNone then .ready else .done) jump))).heap[D+1]?=some (.loop (rec (if jump.isNone then .ready else .done) jump))∧
     (W3.putObj (D+1) (.loop (rec (if jump.isNone then .ready else .done) jump))).heap[D]?=some (.deferred (some []))∧D+2≤W3.heap.size:=by
     intro jump W3 h3;have hl3:=hrow h3 (.inr rfl) hl2;have hk3:=hrow h3 (.inl rfl) hk2;have hlt3:=(Array.getElem?_eq_some_iff.1 hl3).1;have hr:=run_endRound (P:=P) jump hl3;rw[hrec] at hr ⊢;exact⟨hr,World.putObj_heap_same hlt3,(World.putObj_heap_other (by omega)).trans hk3,by omega⟩
    rintro e a3 W3 hp3
    cases e with
    | normal=>
     obtain⟨h3,hi3,hr3⟩:=hp3;obtain⟨e1,e2,e3,e4⟩:=fin none W3 h3
     exact⟨_,_,e1,.inl ⟨rfl,⟨hturn hi3,e2,e3,by simpa using e4⟩,by rw[hD];exact hput _ _ _ _ (by rw[←hD];exact hl) hr3⟩⟩
    | ret=>
     obtain⟨h3,hi3⟩:=hp3;obtain⟨e1,e2,e3,_⟩:=fin (some .ret) W3 h3
     exact⟨_,_,e1,.inr ⟨rfl,.ret,hturnx hi3,e2,e3⟩⟩
    | exit id=>
     obtain⟨h3,hi3⟩:=hp3;obtain⟨e1,e2,e3,_⟩:=fin (some (.exit id)) W3 h3
     exact⟨_,_,e1,.inr ⟨rfl,.exit id,hturnx hi3,e2,e3⟩⟩
    | goto t=>
     obtain⟨h3,hi3⟩:=hp3;obtain⟨e1,e2,e3,_⟩:=fin (some (.goto t)) W3 h3
     exact⟨_,_,e1,.inr ⟨rfl,.goto t,hturnx hi3,e2,e3⟩⟩
    | panic ch=>exact hp3.elim
    | outgrown=>exact hp3.elim
   | exit id=>exact hq.elim
   | goto t=>exact hq.elim
   | ret=>exact hq.elim
   | panic ch=>exact hq.elim
   | outgrown=>exact hq.elim
 · rintro e W2 ⟨⟨v,rfl⟩,(⟨xs,hS,hi,hl,hk,_⟩ | ⟨pre,hV,c,hi,hl,hk⟩)⟩
   · have hr:=run_endLoop (P:=P) hl (by rw[hrec];simp);rw[hrec] at hr;refine⟨none,_,hr,?_⟩;have:=hdone xs _ hS (hturn hi (o:=.loop { rec .ready none with state:=.exhausted })) (by rw[←hD];exact(World.putObj_heap_other (by omega)).trans hk);rw[hrec] at this;rw[hD] at this ⊢;exact this
   · have hr:=run_endLoop (P:=P) hl (by rw[hrec];simp);rw[hrec] at hr;refine⟨some c,_,hr,?_⟩;have:=hstop c pre _ hV (hturnx hi (o:=.loop { rec .done (some c) with state:=.exhausted })) (by rw[←hD];exact(World.putObj_heap_other (by omega)).trans hk);rw[hrec] at this;rw[hD] at this ⊢;exact this
end
section
open Go.RowKit
def kg (l:List Nat) (p:Nat):Nat×Nat×Err:=
 match zh (l.drop p) 0 0 with
 | (1,x,j)=>(x,p+j,none)
 | (2,_,_)=>(0,0,some (6,some (p:Int)))
 | _=>(0,0,some (5,some (p:Int)))
theorem zc4 (l:List Nat) (k:Nat) (h:k<l.length):l.drop k=nth l k :: l.drop (k+1):=by
 rw[List.drop_eq_getElem_cons h];simp[nth,h]
theorem zgv (c:Nat) (h:zk 9 c=0):False:=by
 unfold zk at h;split at h
 · cases h
 · split at h
   · cases h
   · omega
theorem zd0 (n c:Nat):zk n c=0∨zk n c=1∨zk n c=2:=by
 unfold zk;split
 · exact .inr (.inr rfl)
 · split
   · exact .inr (.inl rfl)
   · exact .inl rfl
theorem zjn (a:Option Addr) (n cap p:Nat) (l:List Nat) (w:World) (hB:Byts w a n cap l) (hp:p≤n):
 Calls Tryz.prog 57 #[.slice a n cap,.int .i64 p] w fun e w'=>e=.returned (.tuple #[.int .u64 ((kg l p).1:Nat),.int .i64 ((kg l p).2.1:Nat),zn (kg l p).2.2])∧Below w.heap.size w w':=by
 have HB:=hid hB;obtain⟨hn,hlt,hnc,hcm,hnil,hc⟩:=hB;clear hnil;have hm:n≤9223372036854775807:=by omega
 have Hlt:=hid hlt;clear hlt;by_cases hpn:p<n
 · obtain⟨b,o,rfl,hcell⟩:=hc (by omega);have Hcell:=hid hcell;clear hcell hc;have Hn:=hid hn;clear hn;have hpc:¬cap=p:=by omega
   go_enter Tryz.func57,Tryz.ntmps57;go_wp2_with fail
   have HR0:=hid (show RdV w (w.alloc (.cells #[.int .u64 0,.int .i64 0,.int .i64 0] 135)) w.heap.size 0 0 0 from
    ⟨(Below.refl _ _).alloc (Nat.le_refl _) _,Nat.le_refl _,by simp only[World.size_alloc];omega,World.cell?_alloc_new _ _ _ _,World.cell?_alloc_new _ _ _ _,World.cell?_alloc_new _ _ _ _,World.frozen?_alloc_new _ _ _ _,World.frozen?_alloc_new _ _ _ _,World.frozen?_alloc_new _ _ _ _,by omega⟩)
   generalize w.alloc (.cells #[.int .u64 0,.int .i64 0,.int .i64 0] 135)=w0 at*;generalize hg:w.heap.size=g at*;have Hg:=hid hg;clear hg;have hcast:((n - p:Nat):Int)=(n:Int) - (p:Int):=by omega
   have Hres:=hid (fun st x j (h:zh (l.drop p) 0 0=(st,x,j))=>(show kg l p=(match (st,x,j) with | (1,x,j)=>(x,p+j,none) | (2,_,_)=>(0,0,some (6,some (p:Int))) | _=>(0,0,some (5,some (p:Int)))) from by unfold kg;rw[h]));generalize hmm:n - p=m at*;have Hm:=hid hmm;clear hmm hcast;go_loopw [9,22] (fun _ i wr=>∃k x:Nat,k≤m∧k<10∧i=.int .i64 k∧Hid (RdV w wr g x k 0)∧Hid (zh (l.drop p) 0 0=zh (l.drop (p+k)) k x)) (fun _ i _=>m - (intOf i).toNat)
   case atStart=>exact⟨0,0,by omega,by omega,rfl,HR0.out,rfl⟩
   case round=>
    obtain⟨k,x,hk,hk10,rfl,hR,hS⟩:=hrel;by_cases hkm:k<m
    · have hBr:=HB.out.below hR.out.below;obtain⟨b',o',e',hcell'⟩:=hBr.cells (by omega);cases e';have hc:=hcell' (p+k) (by have:=Hm.out;omega);have hsum:p+k+1≤n:=by have:=Hm.out;omega
      have hnc:nth l (p+k)<256:=zeo Hlt.out (by omega) _;have Hd:=hid (zc4 l (p+k) (by rw[Hn.out];have:=Hm.out;omega));rw[←Nat.add_assoc] at hc;generalize nth l (p+k)=c at*;clear hcell' hBr;go_wp2_with fail;refine(zo6 w _ g x k c hR.out hnc hk10).mono ?_;rintro e w2 ⟨rfl,hR2⟩;have HR2:=hid hR2;clear hR2;rcases zd0 k c with hns | hns | hns
      · rw[hns];rw[hns] at HR2;have hk9:k≠9:=fun e=>zgv c (by rw[←e];exact hns)
        have HS2:=hid (show zh (l.drop p) 0 0=zh (l.drop (p+(k+1))) (k+1) (ye x k c) from by
         rw[hS.out,Hd.out];show (if zk k c=2 then _ else if zk k c=1 then _ else _)=_;rw[hns];rfl)
        clear hns;go_wp2_with fail;go_roundw
        case rel=>exact⟨k+1,_,by omega,by omega,by go_num,HR2,HS2⟩
        case measure=>simp[intOf];omega
      · rw[hns];rw[hns] at HR2;have HS2:=hid (Hres.out 1 (ye x k c) (k+1) (by rw[hS.out,Hd.out];show (if zk k c=2 then _ else if zk k c=1 then _ else _)=_;rw[hns];rfl));clear hns;go_wp2_with fail;refine(zo8 w _ g _ _ HR2.out).mono ?_;rintro e w' ⟨rfl,rfl⟩;go_wp2_with fail;refine(zo9 w _ g _ _ _ HR2.out).mono ?_;rintro e w' ⟨rfl,rfl⟩;go_wp2_with fail;go_ret3
        refine⟨?_,by have:=HR2.out.below;exact this⟩;rw[HS2.out]
        rfl
      · rw[hns];have HS2:=hid (Hres.out 2 0 (k+1) (by rw[hS.out,Hd.out];show (if zk k c=2 then _ else if zk k c=1 then _ else _)=_;rw[hns];rfl));clear hns;go_wp2_with fail;refine(je 6 p _).mono ?_;rintro e w' ⟨rfl,rfl⟩;go_wp2_with fail;go_ret3
        refine⟨?_,by have:=HR2.out.below;exact this⟩;rw[HS2.out]
        rfl
    · obtain rfl:k=m:=by omega
      have HS2:=hid (Hres.out 0 0 k (by rw[hS.out,List.drop_eq_nil_of_le (by rw[Hn.out];have:=Hm.out;omega)];rfl));go_wp2_with fail;refine(je 5 p _).mono ?_;rintro e w' ⟨rfl,rfl⟩;go_wp2_with fail;go_ret3
      refine⟨?_,by have:=hR.out.below;exact this⟩;rw[HS2.out]
      rfl
 · obtain rfl:p=n:=by omega
   have Hr:=hid (show kg l p=(0,0,some (5,some (p:Int))) from by unfold kg;rw[List.drop_eq_nil_of_le (by omega)];rfl);clear hc hn;go_enter Tryz.func57,Tryz.ntmps57;go_wp2_with fail;refine(je 5 p _).mono ?_;rintro e w' ⟨rfl,rfl⟩;go_wp2_with fail;go_ret3
   refine⟨?_,(Below.refl _ _).alloc (Nat.le_refl _) _⟩;rw[Hr.out]
   rfl
end
section
def zbs (e:Ent) (i:Nat):Option (Nat×Nat):=if e.2.1<(zc e.2.2 i).2 then some (4,i) else none
def ckE (e:Ent):Option (Nat×Nat):=match ck e.2.2 with | some x=>some x | none=>ju (zbs e) e.2.2.length
def zd1 (v:Vec) (i:Nat):Option (Nat×Nat):=match ckE (zg v i) with | some x=>some (x.1,i) | none=>if 0<i∧(zg v i).1≤(zg v (i - 1)).1 then some (3,i) else none
def ckV (v:Vec):Option (Nat×Nat):=ju (zd1 v) v.length
def zfd (k:Kno) (i:Nat):Option (Nat×Nat):=match ck (zd k i).1 with | some x=>some (x.1,i) | none=>match ckV (zd k i).2 with | some x=>some (x.1,i) | none=>none
def ckF (k:Kno):Option (Nat×Nat):=ju (zfd k) k.length
theorem zjo {l:List Iv} {x:Nat×Nat} (h:ck l=some x):x.1≠0:=by
 obtain⟨k,-,-,h3⟩:=zgu h;unfold zc3 at h3;split at h3
 · cases h3;simp
 · split at h3 <;> cases h3;simp
theorem zjp {e:Ent} {x:Nat×Nat} (h:ckE e=some x):x.1≠0:=by
 unfold ckE at h;split at h
 · rename_i y hy;cases h;exact zjo hy
 · obtain⟨k,-,-,h3⟩:=zgu h;unfold zbs at h3;split at h3 <;> cases h3;simp
theorem zqg {v:Vec} {x:Nat×Nat} (h:ckV v=some x):x.1≠0:=by
 obtain⟨k,-,-,h3⟩:=zgu h;unfold zd1 at h3;split at h3
 · rename_i y hy;cases h3;have:=zjp hy;exact this
 · split at h3 <;> cases h3;simp
end
section
open Go.RowKit Go.Maps
def zP:Value:=.agg #[.slice none 0 0,.slice none 0 0]
def zjq:Value→Bool
 | .slice _ _ _=>true
 | _=>false
def zqh:List Value→Bool
 | [x,y]=>zjq x && zjq y
 | _=>false
def isP:Value→Bool
 | .agg cs=>zqh cs.toList
 | _=>false
def rP (v:Value):Option (DataW Value×List MemPlace):=if isP v=true then some (.held v,[]) else none
theorem wfU {x:Nat} (h:x<18446744073709551616):(Lit.int .u64 (x:Int)).wf=true:=by
 simp[Lit.wf,IntKind.min,IntKind.max,IntKind.signed,IntKind.bits];omega
theorem zqi {n:Int} (h:(Lit.int .u64 n).wf=true):∃x:Nat,n=(x:Int)∧x<18446744073709551616:=by
 simp[Lit.wf,IntKind.min,IntKind.max,IntKind.signed,IntKind.bits] at h;exact⟨n.toNat,by omega,by omega⟩
theorem zfe:Maps.Keyed Tryz.prog 43:=int_keyed Tryz.underlying43
theorem zqj {x:Nat} (h:x<18446744073709551616):keyOf Tryz.prog 43 (.int .u64 (x:Int))=some (.int .u64 (x:Int)):=keyOf_int_mk Tryz.underlying43 (wfU h)
structure PairS (w:World) (base B n:Nat) (D:DataW Value) (S:List Nat) (G1 G2:Nat→List Iv):Prop where
 own:w.ownsMap Tryz.prog 43 rP B n D
 keys:∀r:Nat,Maps.has D (.int .u64 (r:Int))=decide (r∈S)
 vals:∀r:Nat,∃a n c a' n' c',D.atKey (.int .u64 (r:Int)) (.held zP)=.held (.agg #[.slice a n c,.slice a' n' c'])∧IvsT w base a n c (G1 r)∧IvsT w base a' n' c' (G2 r)
theorem zjr (w:World) (base:Nat):IvsT w base none 0 0 []:=⟨zgi w,fun h=>by omega⟩
theorem PairS.start (w:World) (base:Nat):PairS (w.alloc (.map #[] 0)) base w.heap.size 0 (.map []) [] (fun _=>[]) (fun _=>[]):=
 ⟨World.ownsMap_made _ _ _ _,fun r=>rfl,fun r=>⟨none,0,0,none,0,0,rfl,zjr _ _,zjr _ _⟩⟩
theorem PairS.steady {w w':World} {base B n:Nat} {D:DataW Value} {S:List Nat} {G1 G2:Nat→List Iv} (h:PairS w base B n D S G1 G2) (hs:Steady base ze9 w w') (hm:w'.ownsMap Tryz.prog 43 rP B n D):PairS w' base B n D S G1 G2:=
 ⟨hm,h.keys,fun r=>by
  obtain⟨a,n,c,a',n',c',h1,h2,h3⟩:=h.vals r;exact⟨a,n,c,a',n',c',h1,h2.steady hs rfl,h3.steady hs rfl⟩⟩
theorem zcf {r x:Nat} (h:r≠x):Lit.int .u64 (r:Int)≠Lit.int .u64 (x:Int):=fun e=>h (by cases e;rfl)
theorem PairS.put {w w':World} {base B n m r:Nat} {D:DataW Value} {S:List Nat} {G1 G2:Nat→List Iv} (h:PairS w base B n D S G1 G2) (hs:Steady base ze9 w w') {a:Option Addr} {k c:Nat} {a':Option Addr} {k' c':Nat} {L L':List Iv}
 (h1:IvsT w' base a k c L) (h2:IvsT w' base a' k' c' L') (hown:w'.ownsMap Tryz.prog 43 rP B m (D.put (.int .u64 (r:Int)) (.held (.agg #[.slice a k c,.slice a' k' c'])))):
 PairS w' base B m (D.put (.int .u64 (r:Int)) (.held (.agg #[.slice a k c,.slice a' k' c']))) (S++[r]) (fun x=>if x=r then L else G1 x) (fun x=>if x=r then L' else G2 x):=by
 have hI:=h.own.isMap;have hk:∀x:Nat,WideAt.IsKeyLit (.int .u64 (x:Int)):=fun _=>trivial
 refine⟨hown,fun x=>?_,fun x=>?_⟩
 · by_cases e:x=r
   · subst e;rw[has_put_same hI (hk _)];simp
   · rw[has_put_other (zcf e),h.keys x];simp[e]
 · by_cases e:x=r
   · subst e;exact⟨a,k,c,a',k',c',atKey_put_same hI (hk _) _ _,by simpa using h1,by simpa using h2⟩
   · obtain⟨a1,n1,c1,a2,n2,c2,h3,h4,h5⟩:=h.vals x;exact⟨a1,n1,c1,a2,n2,c2,by rw[atKey_put_other (zcf e)];exact h3,by simpa [e] using h4.steady hs rfl,by simpa [e] using h5.steady hs rfl⟩
theorem PairS.congr {w:World} {base B n:Nat} {D:DataW Value} {S S':List Nat} {G1 G2 G1' G2':Nat→List Iv} (h:PairS w base B n D S G1 G2) (hS:∀r,r∈S↔r∈S') (h1:∀r,G1 r=G1' r) (h2:∀r,G2 r=G2' r):PairS w base B n D S' G1' G2':=
 ⟨h.own,fun r=>by rw[h.keys r];simp[hS r],fun r=>by rw[←h1,←h2];exact h.vals r⟩
theorem zgw {w w':World} (h:Below w.heap.size w w'):w.grownBy w' none:=⟨h.os,h.tape,h.output,h.size,fun k hk _=>h.block k hk⟩
theorem zjs {H:Type} {w:World} {ops:Array Oper} {rest:List Oper} {o:Oper} {a:Act} {Q:Exit→Act→World→Prop} (hg:o.guard=none) (it:Operand) (hop:o.op=Op.next it false) (R:Value→Option (DataW H×List MemPlace))
 (b r n:Nat) (D:DataW H) (left:Lit→Bool) (cnt:Nat) (hit:a.eval it=.pointer (some ⟨r,0,none⟩)) (h:w.ranges Tryz.prog 43 R b r n D left cnt)
 (hDone:(∀kl,left kl=false)→wpList Tryz.prog ops Q rest (a.put o.dst (.tuple #[.bool false])) w)
 (hMore:∀(x:Nat) (u:Value) (w':World) (cnt':Nat),x<18446744073709551616→left (.int .u64 (x:Int))=true→Maps.has D (.int .u64 (x:Int))=true→
   w'.ranges Tryz.prog 43 R b r n D (fun z=>left z && !z.sameKey (.int .u64 (x:Int))) cnt'→cnt'<cnt→w.grownBy w' (some r)→w'.heap.size=w.heap.size→
   (Instr.entry (.pointer (some ⟨r,0,none⟩))).run Tryz.prog w'=.ok (.tuple #[.int .u64 (x:Int),u]) w'→wpList Tryz.prog ops Q rest (a.put o.dst (.tuple #[.bool true,.int .u64 (x:Int),u])) w'):
 wpList Tryz.prog ops Q (o :: rest) a w:=by
 refine wpList_plain hg fun K' hK'=>?_
 unfold Oper.wp;rcases h.next zfe o.type with ⟨h0,hl,hrun⟩ | ⟨key,v,kl,y,w',cnt',hkey,hlk,hv,hat,hrun,hrg,hlt,hgr,hsz,hen⟩
 · simp[execOp,hop,hit,hrun,Result.andThen];exact hK' _ _ (hDone hl)
 · obtain⟨x,rfl,rfl,hwx⟩:=Maps.keyOf_int_inv Tryz.underlying43 hkey;obtain⟨x,rfl,hx⟩:=zqi hwx;simp[execOp,hop,hit,hrun,Result.andThen];exact hK' _ _ (hMore x v w' cnt' hx hlk (has_true_of_atKey hat) hrg hlt hgr hsz hen)
end
section
open Go.RowKit Go.Shelf
def IvCell (w:World) (p:Addr) (l:List Iv):Prop:=∃x n c,w.cell? p=some (.slice x n c)∧Ivs w x n c l
def EnCell (w:World) (p:Addr) (v:Vec):Prop:=∃x n c,w.cell? p=some (.slice x n c)∧Ents w x n c v
theorem IvCell.below {w w':World} {p:Addr} {l:List Iv} (h:IvCell w p l) (hb:Below w.heap.size w w'):IvCell w' p l:=
 let ⟨x,n,c,h1,h2⟩:=h;⟨x,n,c,(hb.cell (ze h1)).trans h1,h2.below hb⟩
theorem EnCell.below {w w':World} {p:Addr} {v:Vec} (h:EnCell w p v) (hb:Below w.heap.size w w'):EnCell w' p v:=
 let ⟨x,n,c,h1,h2⟩:=h;⟨x,n,c,(hb.cell (ze h1)).trans h1,h2.below hb⟩
structure Frags (w:World) (a:Option Addr) (n cap:Nat) (k:Kno):Prop where
 len:k.length=n
 room:n≤cap
 most:cap≤9223372036854775807
 nilc:a=none→cap=0
 cells:0<n→∃b o,a=some ⟨b,o,none⟩∧∀i,i<n→IvCell w ⟨b,o+i*2,none⟩ (zd k i).1∧EnCell w ⟨b,o+i*2+1,none⟩ (zd k i).2
theorem Frags.below {w w':World} {a:Option Addr} {n cap:Nat} {k:Kno} (h:Frags w a n cap k) (hb:Below w.heap.size w w'):Frags w' a n cap k:=by
 refine⟨h.len,h.room,h.most,h.nilc,fun hn=>?_⟩;obtain⟨b,o,ha,hc⟩:=h.cells hn;exact⟨b,o,ha,fun i hi=>⟨(hc i hi).1.below hb,(hc i hi).2.below hb⟩⟩
theorem zd2 (w:World):Frags w none 0 0 []:=⟨rfl,by omega,by omega,fun _=>rfl,fun h=>by omega⟩
theorem Frags.lt {w:World} {a:Option Addr} {n cap:Nat} {k:Kno} (h:Frags w a n cap k) {i:Nat} (hi:i<n):yj (zd k i).1∧LtV (zd k i).2:=by
 obtain⟨b,o,-,hc⟩:=h.cells (by omega);obtain⟨⟨_,_,_,_,h1⟩,⟨_,_,_,_,h2⟩⟩:=hc i hi;exact⟨h1.lt,h2.lt⟩
theorem Frags.all {w:World} {a:Option Addr} {n cap:Nat} {k:Kno} (h:Frags w a n cap k):∀f∈k,yj f.1∧LtV f.2:=by
 intro f hf;obtain⟨i,hi,rfl⟩:=List.getElem_of_mem hf;have:=h.lt (i:=i) (by rw[←h.len];exact hi);rwa [yo hi] at this
structure EntsT (w:World) (base:Nat) (a:Option Addr) (n c:Nat) (v:Vec):Prop where
 len:v.length=n
 lt:LtV v
 room:n≤c
 most:c≤9223372036854775807
 nilc:a=none→c=0
 row:0<n→∀p,a=some p→zbq w base 93 p.block
 cells:0<n→∃b o,a=some ⟨b,o,none⟩∧∀i,i<n→w.cell? ⟨b,o+i*3,none⟩=some (.int .u64 (((zg v i).1:Nat):Int))∧w.cell? ⟨b,o+i*3+1,none⟩=some (.int .u64 (((zg v i).2.1:Nat):Int))∧
  ∃x k c,w.cell? ⟨b,o+i*3+2,none⟩=some (.slice x k c)∧IvsT w base x k c (zg v i).2.2
theorem EntsT.ents {w:World} {base:Nat} {a:Option Addr} {n c:Nat} {v:Vec} (h:EntsT w base a n c v):Ents w a n c v:=by
 refine⟨h.len,h.lt,h.room,h.most,h.nilc,fun hn=>?_⟩;obtain⟨b,o,ha,hc⟩:=h.cells hn;refine⟨b,o,ha,fun i hi=>?_⟩;obtain⟨h1,h2,x,k,d,h3,h4⟩:=hc i hi;exact⟨h1,h2,x,k,d,h3,h4.ivs⟩
theorem zjt (w:World) (base:Nat):EntsT w base none 0 0 []:=⟨rfl,by simp,by omega,by omega,fun _=>rfl,fun h=>by omega,fun h=>by omega⟩
theorem EntsT.steady {w w':World} {base:Nat} {P:TypeId→Prop} {a:Option Addr} {n c:Nat} {v:Vec} (h:EntsT w base a n c v) (hs:Steady base P w w') (h1:P 89) (h2:P 93):EntsT w' base a n c v:=by
 refine⟨h.len,h.lt,h.room,h.most,h.nilc,fun hn p hp=>?_,fun hn=>?_⟩
 · obtain⟨b,o,ha,hc⟩:=h.cells hn;rw[ha] at hp;cases hp;exact(zfa (h.row hn _ ha) (ze (hc 0 hn).1) hs h2).1
 · obtain⟨b,o,ha,hc⟩:=h.cells hn;obtain⟨-,hrow⟩:=zfa (h.row hn _ ha) (ze (hc 0 hn).1) hs h2;refine⟨b,o,ha,fun i hi=>?_⟩;obtain⟨e1,e2,x,k,d,e3,e4⟩:=hc i hi
   exact⟨(World.cell?_of_block (a:=⟨b,o+i*3,none⟩) hrow).trans e1,(World.cell?_of_block (a:=⟨b,o+i*3+1,none⟩) hrow).trans e2,x,k,d,
    (World.cell?_of_block (a:=⟨b,o+i*3+2,none⟩) hrow).trans e3,e4.steady hs h1⟩
theorem zju {w:World} {base base':Nat} {T:TypeId} {b:Nat} (h:zbq w base T b) (hb:base≤base'):zbq w base' T b:=h.imp (fun h=>by omega) id
theorem IvsT.raise {w:World} {base base':Nat} {a:Option Addr} {n c:Nat} {l:List Iv} (h:IvsT w base a n c l) (hb:base≤base'):IvsT w base' a n c l:=⟨h.ivs,fun hn p hp=>zju (h.row hn p hp) hb⟩
theorem EntsT.raise {w:World} {base base':Nat} {a:Option Addr} {n c:Nat} {v:Vec} (h:EntsT w base a n c v) (hb:base≤base'):EntsT w base' a n c v:=by
 refine⟨h.len,h.lt,h.room,h.most,h.nilc,fun hn p hp=>zju (h.row hn p hp) hb,fun hn=>?_⟩;obtain⟨b,o,ha,hc⟩:=h.cells hn;refine⟨b,o,ha,fun i hi=>?_⟩;obtain⟨e1,e2,x,k,d,e3,e4⟩:=hc i hi;exact⟨e1,e2,x,k,d,e3,e4.raise hb⟩
theorem OwnV.entsT {w:World} {base base':Nat} {x:Value} {v:Vec} (h:OwnV w base x v) (hl:LtV v):∃a c,x=.slice a v.length c∧EntsT w base' a v.length c v:=by
 obtain⟨ss,ho,hs⟩:=h;have ho2:=ho;rcases ho.2 with ⟨rfl,h0⟩ | ⟨g,cap,cur,rfl,hg,hh,hnc,hcm,_⟩
 · rw[h0];have:v=[]:=List.length_eq_zero_iff.1 h0;subst this;exact⟨none,0,rfl,zjt w base'⟩
 · refine⟨_,_,rfl,rfl,hl,hnc,by unfold maxLen at hcm;omega,(by intro h;cases h),fun hn p hp=>?_,fun hn=>⟨g,0,rfl,fun i hi=>?_⟩⟩
   · cases hp;exact .inr ⟨_,_,hh⟩
   obtain⟨e1,e2,e3⟩:=zgs hs.1 hi;obtain⟨a,n,c,h1,h2⟩:=hs.2 i hi;rw[h1] at e3;have c1:=ho2.cells (g:=g) rfl _ _ e1;have c2:=ho2.cells (g:=g) rfl _ _ e2;have c3:=ho2.cells (g:=g) rfl _ _ e3;rw[yv] at c1 c2 c3;exact⟨c1,by rw[Nat.add_assoc];exact c2,a,n,c,by rw[Nat.add_assoc];exact c3,h2.raise (Nat.zero_le _)⟩
def vg (ss:List (Value×Value)):List Value:=ss.flatMap fun p=>[p.1,p.2]
theorem zqk (ss ts:List (Value×Value)):vg (ss++ts)=vg ss++vg ts:=by simp[vg]
theorem zgx:∀{ss:List (Value×Value)} {i:Nat} {p:Value×Value},ss[i]?=some p→(vg ss)[i*2]?=some p.1∧(vg ss)[i*2+1]?=some p.2
 | [],i,p,h=>by simp at h
 | s :: ss,0,p,h=>by simp at h;subst h;exact⟨rfl,rfl⟩
 | s :: ss,i+1,p,h=>by
   have:=zgx (ss:=ss) (i:=i) (p:=p) (by simpa using h);have e1:vg (s :: ss)=s.1 :: s.2 :: vg ss:=rfl;rw[e1,show (i+1)*2=i*2+1+1 by omega,show i*2+1+1+1=(i*2+1)+1+1 by omega];simpa using this
def IvSl (w:World) (base:Nat) (x:Value) (l:List Iv):Prop:=∃a n c,x=.slice a n c∧IvsT w base a n c l
def EnSl (w:World) (base:Nat) (x:Value) (v:Vec):Prop:=∃a n c,x=.slice a n c∧EntsT w base a n c v
theorem IvSl.steady {w w':World} {base:Nat} {P:TypeId→Prop} {x:Value} {l:List Iv} (h:IvSl w base x l) (hs:Steady base P w w') (h1:P 89):IvSl w' base x l:=
 let ⟨a,n,c,e,h⟩:=h;⟨a,n,c,e,h.steady hs h1⟩
theorem EnSl.steady {w w':World} {base:Nat} {P:TypeId→Prop} {x:Value} {v:Vec} (h:EnSl w base x v) (hs:Steady base P w w') (h1:P 89) (h2:P 93):EnSl w' base x v:=
 let ⟨a,n,c,e,h⟩:=h;⟨a,n,c,e,h.steady hs h1 h2⟩
theorem IvSl.raise {w:World} {base base':Nat} {x:Value} {l:List Iv} (h:IvSl w base x l) (hb:base≤base'):IvSl w base' x l:=
 let ⟨a,n,c,e,h⟩:=h;⟨a,n,c,e,h.raise hb⟩
theorem EnSl.raise {w:World} {base base':Nat} {x:Value} {v:Vec} (h:EnSl w base x v) (hb:base≤base'):EnSl w base' x v:=
 let ⟨a,n,c,e,h⟩:=h;⟨a,n,c,e,h.raise hb⟩
def PartsT (w:World) (base:Nat) (k:Kno) (ss:List (Value×Value)):Prop:=ss.length=k.length∧∀i,i<k.length→∃p,ss[i]?=some p∧IvSl w base p.1 (zd k i).1∧EnSl w base p.2 (zd k i).2
theorem PartsT.steady {w w':World} {base:Nat} {P:TypeId→Prop} {k:Kno} {ss:List (Value×Value)} (h:PartsT w base k ss) (hs:Steady base P w w') (h1:P 89) (h2:P 93):PartsT w' base k ss:=
 ⟨h.1,fun i hi=>let ⟨p,e,h3,h4⟩:=h.2 i hi;⟨p,e,h3.steady hs h1,h4.steady hs h1 h2⟩⟩
theorem PartsT.raise {w:World} {base base':Nat} {k:Kno} {ss:List (Value×Value)} (h:PartsT w base k ss) (hb:base≤base'):PartsT w base' k ss:=
 ⟨h.1,fun i hi=>let ⟨p,e,h3,h4⟩:=h.2 i hi;⟨p,e,h3.raise hb,h4.raise hb⟩⟩
theorem zql {k j:Kno} {i:Nat} (h:i<k.length):zd (k++j) i=zd k i:=by
 rw[yo (by rw[List.length_append];omega),yo h,List.getElem_append_left h]
theorem zqm {k j:Kno} {i:Nat} (h:i<j.length):zd (k++j) (k.length+i)=zd j i:=by
 rw[yo (by rw[List.length_append];omega),yo h,List.getElem_append_right (by omega)];simp
theorem PartsT.append {w:World} {base:Nat} {k j:Kno} {ss ts:List (Value×Value)} (h:PartsT w base k ss) (h':PartsT w base j ts):PartsT w base (k++j) (ss++ts):=by
 refine⟨by simp[h.1,h'.1],fun i hi=>?_⟩;by_cases hv:i<k.length
 · obtain⟨p,e,h1,h2⟩:=h.2 i hv;refine⟨p,by rw[List.getElem?_append_left (by rw[h.1];exact hv)];exact e,?_⟩;rw[zql hv];exact⟨h1,h2⟩
 · obtain⟨d,rfl⟩:∃d,i=k.length+d:=⟨i - k.length,by omega⟩;have hd:d<j.length:=by rw[List.length_append] at hi;omega
   obtain⟨p,e,h1,h2⟩:=h'.2 d hd;refine⟨p,by rw[List.getElem?_append_right (by rw[h.1];omega),h.1,Nat.add_sub_cancel_left];exact e,?_⟩;rw[zqm hd];exact⟨h1,h2⟩
theorem PartsT.take {w:World} {base:Nat} {k:Kno} {ss:List (Value×Value)} (h:PartsT w base k ss) (n:Nat):PartsT w base (k.take n) (ss.take n):=by
 refine⟨by simp[h.1],fun i hi=>?_⟩;have hi2:i<k.length∧i<n:=by rw[List.length_take] at hi;omega
 obtain⟨p,e,h1⟩:=h.2 i hi2.1;refine⟨p,by rw[List.getElem?_take,if_pos hi2.2];exact e,?_⟩;have:zd (k.take n) i=zd k i:=by rw[yo hi,yo hi2.1,List.getElem_take]
 rw[this];exact h1
theorem PartsT.drop {w:World} {base:Nat} {k:Kno} {ss:List (Value×Value)} (h:PartsT w base k ss) (n:Nat):PartsT w base (k.drop n) (ss.drop n):=by
 refine⟨by simp[h.1],fun i hi=>?_⟩;have hi2:n+i<k.length:=by rw[List.length_drop] at hi;omega
 obtain⟨p,e,h1⟩:=h.2 (n+i) hi2;refine⟨p,by rw[List.getElem?_drop];exact e,?_⟩;have:zd (k.drop n) i=zd k (n+i):=by rw[yo hi,yo hi2,List.getElem_drop]
 rw[this];exact h1
theorem PartsT.set {w:World} {base:Nat} {k:Kno} {ss:List (Value×Value)} {n:Nat} {f:Frg} {x y:Value} (h:PartsT w base k ss) (h1:IvSl w base x f.1) (h2:EnSl w base y f.2):PartsT w base (k.set n f) (ss.set n (x,y)):=by
 refine⟨by simp[h.1],fun i hi=>?_⟩;have hi':i<k.length:=by simpa using hi
 obtain⟨p,e,h3⟩:=h.2 i hi';by_cases e:n=i
 · subst e;refine⟨(x,y),by rw[List.getElem?_set_self (by rw[h.1];exact hi')],?_⟩;have:zd (k.set n f) n=f:=by rw[yo hi];simp
   rw[this];exact⟨h1,h2⟩
 · refine⟨p,by rw[List.getElem?_set_ne e];assumption,?_⟩;have:zd (k.set n f) i=zd k i:=by rw[yo hi,yo hi',List.getElem_set_ne e]
   rw[this];exact h3
def OwnK (w:World) (base inner:Nat) (x:Value) (k:Kno):Prop:=∃ss,w.ownsRow base 97 2 x k.length (vg ss)∧PartsT w inner k ss
def qw (T:TypeId):Prop:=T=89∨T=93∨T=97
theorem zcg {w w':World} {base inner sz n:Nat} {P:TypeId→Prop} {T:TypeId} {x:Value} {xs:List Value} (ho:w.ownsRow base T sz x n xs) (hs:Steady inner P w w') (h1:P T):w'.ownsRow base T sz x n xs:=by
 refine⟨ho.1,?_⟩;rcases ho.2 with h' | ⟨g,cap,cur,hv,hg,hr,rest⟩
 · exact .inl h'
 · exact .inr ⟨g,cap,cur,hv,hg,(hs.row g (Array.getElem?_eq_some_iff.1 hr).1 (.inr ⟨_,_,_,h1,hr⟩)).trans hr,rest⟩
theorem OwnK.steady {w w':World} {base inner:Nat} {P:TypeId→Prop} {x:Value} {k:Kno} (h:OwnK w base inner x k) (hs:Steady inner P w w') (h1:P 89) (h2:P 93) (h3:P 97):OwnK w' base inner x k:=
 let ⟨ss,ho,hh⟩:=h;⟨ss,zcg ho hs h3,hh.steady hs h1 h2⟩
theorem OwnK.below {w w':World} {base inner:Nat} {x:Value} {k:Kno} (h:OwnK w base inner x k) (hb:Below w.heap.size w w'):OwnK w' base inner x k:=
 h.steady (P:=fun _=>True) (.of_below hb) trivial trivial trivial
theorem OwnK.lower {w:World} {base base' inner:Nat} {x:Value} {k:Kno} (h:OwnK w base inner x k) (hb:base'≤base):OwnK w base' inner x k:=
 let ⟨ss,ho,hh⟩:=h;⟨ss,vw ho hb,hh⟩
theorem OwnK.raise {w:World} {base inner inner':Nat} {x:Value} {k:Kno} (h:OwnK w base inner x k) (hb:inner≤inner'):OwnK w base inner' x k:=
 let ⟨ss,ho,hh⟩:=h;⟨ss,ho,hh.raise hb⟩
theorem OwnK.frags {w:World} {base inner:Nat} {x:Value} {k:Kno} (h:OwnK w base inner x k):∃a c,x=.slice a k.length c∧Frags w a k.length c k:=by
 obtain⟨ss,ho,hs⟩:=h;have ho2:=ho;rcases ho.2 with ⟨rfl,h0⟩ | ⟨g,cap,cur,rfl,hg,hh,hnc,hcm,_⟩
 · rw[h0];have:k=[]:=List.length_eq_zero_iff.1 h0;subst this;exact⟨none,0,rfl,zd2 w⟩
 · refine⟨_,_,rfl,rfl,hnc,by unfold maxLen at hcm;omega,(by intro h;cases h),fun hn=>⟨g,0,rfl,fun i hi=>?_⟩⟩;obtain⟨p,e,⟨a1,n1,m1,p1,i1⟩,⟨a2,n2,m2,p2,i2⟩⟩:=hs.2 i hi;obtain⟨e1,e2⟩:=zgx e;rw[p1] at e1;rw[p2] at e2;have c1:=ho2.cells (g:=g) rfl _ _ e1;have c2:=ho2.cells (g:=g) rfl _ _ e2;rw[yv] at c1 c2;exact⟨⟨a1,n1,m1,c1,i1.ivs⟩,⟨a2,n2,m2,by rw[Nat.add_assoc];exact c2,i2.ents⟩⟩
theorem Tryz.info_frg:(Tryz.prog.info? 97).map (fun i=>(i.zero,i.size,i.bytes))=some (some (.agg #[.slice none 0 0,.slice none 0 0]),2,48):=by kernel_rfl
theorem PartsT.one {w:World} {base:Nat} {k:Kno} {ss:List (Value×Value)} (h:PartsT w base k ss):∀u∈vg ss,u.oneCell'=true:=by
 intro u hu;simp only[vg,List.mem_flatMap] at hu;obtain⟨p,hp,hu⟩:=hu;obtain⟨i,hi,rfl⟩:=List.getElem_of_mem hp;obtain⟨q,e,⟨_,_,_,h1,_⟩,⟨_,_,_,h2,_⟩⟩:=h.2 i (by rw[←h.1];exact hi);rw[List.getElem?_eq_getElem hi] at e;cases e;simp only[List.mem_cons,List.not_mem_nil,or_false] at hu;rcases hu with rfl | rfl
 · rw[h1];rfl
 · rw[h2];rfl
