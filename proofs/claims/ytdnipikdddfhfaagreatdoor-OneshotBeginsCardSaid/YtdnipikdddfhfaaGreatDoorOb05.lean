/- Part 05. -/
import Derived.Test.YtdnipikdddfhfaaGreatDoorOb04
set_option linter.unusedVariables false
set_option maxHeartbeats 16000000
namespace Go.Proofs.YtdnipikdddfhfaaGreatDoor
open Lib (hid)
section
open Go.RowKit Go.Shelf
def zhx {α:Type} (n:Nat) (P:Program) (g:Nat) (lb:Array Value) (encs:α→Array Value) (V S:List α→Prop) (R p:Nat→Prop) (w:World):Prop:=
 ∀(l:Nat) (J Jx:List α→World→Prop) (W:World),w.heap.size≤l→Below w.heap.size w W→
  (∀s A B,J s A→Kept (fun k=>¬R k) A B→J s B)→(∀s A B,Jx s A→Kept (fun k=>¬R k) A B→Jx s B)→
  (∀pre x W1,V (pre++[x])→J pre W1→YieldAt Fence.wide (n - 1) P l (encs x) W1 fun e W'=>
    (e=.returned (.bool true)∧J (pre++[x]) W'∧Kept p W1 W')∨(e=.returned (.bool false)∧Jx (pre++[x]) W'))→
  J [] W→
  CallsIn Fence.wide n P g (#[.func (.yield l) #[] #[]]++lb) W fun e W'=>(∃v,e=.returned v)∧((∃xs,S xs∧J xs W')∨(∃pre,V pre∧Jx pre W'))
def zn6 {α:Type} (D:Nat) (p:Nat→Prop) (I:List α→World→Prop) (Ix:Code→List α→World→Prop) (xs:List α) (W:World):Exit→Act→World→Prop
 | .normal,_,W'=>Kept (fun k=>p k∨k=D∨k=D+1) W W'∧I xs W'
 | .ret,_,W'=>Kept (fun k=>k=D∨k=D+1) W W'∧Ix .ret xs W'
 | .exit id,_,W'=>Kept (fun k=>k=D∨k=D+1) W W'∧Ix (.exit id) xs W'
 | .goto t,_,W'=>Kept (fun k=>k=D∨k=D+1) W W'∧Ix (.goto t) xs W'
 | .panic _,_,_=>False
 | .outgrown,_,_=>False
theorem zn7 {α:Type} {n:Nat} {P:Program} {g:Operand} {ps:Array Tmp} {assign body:Code} {Q:Exit→Act→World→Prop} {a:Act} {w:World}
 {gf:Nat} {lb:Array Value} (hg:a.eval g=.func (.func gf) #[] lb) (eg:∀args w,(callFunc gf args).run P w=.ok (.enter gf args) w)
 {encs:α→Array Value} {V S:List α→Prop} {R p:Nat→Prop} (hseq:zhx (n - 1) P gf lb encs V S R p w) (hps:∀x,(encs x).size=ps.size)
 (hR:∀k,R k→k<w.heap.size) (hp:∀k,p k→k<w.heap.size)
 (I:List α→World→Prop) (Ix:Code→List α→World→Prop)
 (hI:∀s A B,I s A→Kept (fun k=>¬R k∧k≠w.heap.size∧k≠w.heap.size+1) A B→I s B)
 (hIx:∀c s A B,Ix c s A→Kept (fun k=>¬R k∧k≠w.heap.size∧k≠w.heap.size+1) A B→Ix c s B)
 (h0:I [] w)
 (hround:∀pre x W,V (pre++[x])→I pre W→w.heap.size+2≤W.heap.size→
   assign.wpIn (Fence.wide.inRound (w.heap.size+1)) (n - 1 - 1) P (Exit.then (fun a₁ W₁=>Kept (fun k=>p k∨k=w.heap.size∨k=w.heap.size+1) W W₁∧
    ∀W₂,Kept (fun k=>k≠w.heap.size+1) W₁ W₂→W₂.heap.size=W₁.heap.size→body.wpIn (Fence.wide.inRound (w.heap.size+1)) (n - 1 - 1) P (zn6 w.heap.size p I Ix (pre++[x]) W₂) a₁ W₂) (fun _ _ _=>False))
    { tmps:=(ps.zip (encs x)).foldl (fun t (u,v)=>t.setIfInBounds u v) a.tmps,defers:=[] } W)
 (hdone:∀(xs:List α) (W:World),S xs→I xs W→W.heap[w.heap.size]?=some (.deferred (some []))→Q .normal { a with defers:={ target:=.collected w.heap.size,args:= #[] } :: a.defers } W)
 (hstop:∀(c:Code) (pre:List α) (W:World),V pre→Ix c pre W→W.heap[w.heap.size]?=some (.deferred (some []))→c.wpIn Fence.wide n P Q { a with defers:={ target:=.collected w.heap.size,args:= #[] } :: a.defers } W):
 (Code.rangeFunc g ps assign body).wpIn Fence.wide n P Q a w:=by
 refine wpIn_rangeFunc fun fn hfn=>?_
 obtain⟨D,hD⟩:∃D,D=w.heap.size:=⟨_,rfl⟩;obtain⟨rec,hrec⟩:∃rec:LoopState→Option Code→Loop,rec=fun st pe=>{ state:=st,pending:=pe,fn,tmps:=a.tmps,params:=ps,assign,body,defers:=D }:=⟨_,rfl⟩
 obtain⟨W1,hW1⟩:∃W1,(w.alloc (.deferred (some []))).alloc (.loop (rec .ready none))=W1:=⟨_,rfl⟩;have hsize:W1.heap.size=D+2:=by rw[←hW1,hD];simp
 have hL:W1.heap[D+1]?=some (.loop (rec .ready none)):=by
  rw[←hW1,hD];have h:=World.alloc_heap_new (w.alloc (.deferred (some []))) (.loop (rec .ready none));rwa [World.size_alloc] at h
 have hK:W1.heap[D]?=some (.deferred (some [])):=by
  rw[←hW1,hD];exact(Below.heap_alloc _ _ _ (by simp)).trans (World.alloc_heap_new w _)
 have hkW:Kept (fun _=>True) w W1:=by rw[←hW1];exact((Kept.refl _ w).alloc _).alloc _
 have hI1:I [] W1:=hI _ _ _ h0 (hkW.mono fun _ _ _=>trivial)
 refine⟨D+1,[{ target:=.collected D,args:= #[] }],W1,{ target:=.fn (.func gf) lb,args:= #[.func (.yield (D+1)) #[] #[]] },W1,gf,
  #[.func (.yield (D+1)) #[] #[]]++lb,W1,?_,?_,fun _ _=>trivial,?_,(fun h=>by cases h),?_⟩
 · rw[←hW1,hrec,hD];exact run_enterLoop_outer _ _ _ _ _
 · simp only[resolve,hg];simp[go_sem]
 · simp[invoke,go_sem,eg]
 have hbook:∀{A B:World},Kept (fun k=>¬R k) A B→Kept (fun k=>¬R k∧k≠w.heap.size∧k≠w.heap.size+1) A B:=fun h=>h.mono fun k _ hk=>hk.1
 have hnR:¬R D∧¬R (D+1):=⟨fun h=>by have:=hR _ h;omega,fun h=>by have:=hR _ h;omega⟩;have hnp:¬p D∧¬p (D+1):=⟨fun h=>by have:=hp _ h;omega,fun h=>by have:=hp _ h;omega⟩
 have hrow:∀{A B:World} {k:Nat} {o:Obj} {u:Nat→Prop},Kept u A B→u k→A.heap[k]?=some o→B.heap[k]?=some o:=fun h hu ho=>
  (h.row _ (Array.getElem?_eq_some_iff.1 ho).1 hu).trans ho
 have hturn:∀{s:List α} {A:World} {o:Obj},I s A→I s (A.putObj (D+1) o):=fun {s A o} h=>hI _ _ _ h ((Kept.refl _ A).putObj (fun _ e=>e.2.2 (by rw[hD])) o)
 have hturnx:∀{c:Code} {s:List α} {A:World} {o:Obj},Ix c s A→Ix c s (A.putObj (D+1) o):=fun {c s A o} h=>hIx _ _ _ _ h ((Kept.refl _ A).putObj (fun _ e=>e.2.2 (by rw[hD])) o)
 refine(hseq (D+1)
  (fun pre W=>I pre W∧W.heap[D+1]?=some (.loop (rec .ready none))∧W.heap[D]?=some (.deferred (some []))∧D+2≤W.heap.size)
  (fun pre W=>∃c,Ix c pre W∧W.heap[D+1]?=some (.loop (rec .done (some c)))∧W.heap[D]?=some (.deferred (some [])))
  W1 (by omega) (hkW.toBelow (fun _ _=>trivial) (Nat.le_refl _))
  (fun s A B hs h=>⟨hI _ _ _ hs.1 (hbook h),hrow h hnR.2 hs.2.1,hrow h hnR.1 hs.2.2.1,Nat.le_trans hs.2.2.2 h.size⟩)
  (fun s A B hs h=>by obtain⟨c,h1,h2,h3⟩:=hs;exact⟨c,hIx _ _ _ _ h1 (hbook h),hrow h hnR.2 h2,hrow h hnR.1 h3⟩)
  ?_ ⟨hI1,hL,hK,by omega⟩).mono ?_
 · rintro pre x W hV ⟨hi,hl,hk,hsz⟩;have hy:=run_yield (P:=P) (args:=encs x) hl (by rw[hrec];exact hps x);rw[hrec] at hy;refine⟨fn,_,assign,body,hy,roundIn_of_wpIn hfn ?_⟩;rw[hD];refine wpIn_mono (hround pre x W hV hi (by omega)) ?_;rintro e a₁ Wa hq
   cases e with
   | normal=>
    obtain⟨hka,hbody⟩:=hq;have hl1:Wa.heap[D+1]?=some (.loop (rec .ready none)):=hrow hka (by rw[hD];exact .inr (.inr rfl)) hl;have hk1:Wa.heap[D]?=some (.deferred (some [])):=hrow hka (by rw[hD];exact .inr (.inl rfl)) hk;rw[←hD];refine⟨_,run_beginRound hl1 (by rw[hrec]),?_⟩;obtain⟨Wb,hWb⟩:∃Wb,Wb=Wa.putObj (D+1) (.loop { rec .ready none with state:=.busy }):=⟨_,rfl⟩;rw[←hWb];have hlt:D+1<Wa.heap.size:=(Array.getElem?_eq_some_iff.1 hl1).1;have hl2:Wb.heap[D+1]?=some (.loop { rec .ready none with state:=.busy }):=by rw[hWb];exact World.putObj_heap_same hlt
    have hk2:Wb.heap[D]?=some (.deferred (some [])):=by rw[hWb];exact(World.putObj_heap_other (by omega)).trans hk1
    have hab:Kept (fun k=>k≠w.heap.size+1) Wa Wb:=by rw[hWb];exact(Kept.refl _ Wa).putObj (fun _ e=>e (by rw[hD])) _
    have hb2:=hbody Wb hab (by rw[hWb];simp);rw[←hD] at hb2;refine wpIn_mono hb2 ?_
    have fin:∀(jump:Option Code) (W3:World),Kept (fun k=>k=D∨k=D+1) Wb W3→
     (Instr.endRound (D+1) jump).run P W3=.ok (.bool jump.isNone) (W3.putObj (D+1) (.loop (rec (if jump.isNone then .ready else .done) jump)))∧
     (W3.putObj (D+1) (.loop (rec (if jump.isNone then .ready else .done) jump))).heap[D+1]?=some (.loop (rec (if jump.isNone then .ready else .done) jump))∧
     (W3.putObj (D+1) (.loop (rec (if jump.isNone then .ready else .done) jump))).heap[D]?=some (.deferred (some []))∧D+2≤W3.heap.size:=by
     intro jump W3 h3;have hl3:=hrow h3 (.inr rfl) hl2;have hk3:=hrow h3 (.inl rfl) hk2;have hlt3:=(Array.getElem?_eq_some_iff.1 hl3).1;have hr:=run_endRound (P:=P) jump hl3;rw[hrec] at hr ⊢;exact⟨hr,World.putObj_heap_same hlt3,(World.putObj_heap_other (by omega)).trans hk3,by omega⟩
    have small:∀{W3:World},Kept (fun k=>p k∨k=D∨k=D+1) Wb W3→Kept (fun k=>k=D∨k=D+1) Wb W3:=fun h=>h.mono fun _ _ hk=>.inr hk
    rintro e a3 W3 hp3
    cases e with
    | normal=>
     obtain⟨h3,hi3⟩:=hp3;obtain⟨e1,e2,e3,e4⟩:=fin none W3 (small h3);refine⟨_,_,e1,.inl ⟨rfl,⟨hturn hi3,e2,e3,by simpa using e4⟩,?_⟩⟩;have k1:Kept p W Wa:=hka.mono fun _ _ hk=>.inl hk
     have k2:Kept p Wa Wb:=hab.mono fun k _ hk e=>hnp.2 (by rw[hD];exact e ▸ hk)
     have k3:Kept p Wb W3:=h3.mono fun _ _ hk=>.inl hk
     exact((k1.trans k2).trans k3).putObj (fun _ hk=>hnp.2 hk) _
    | ret=>
     obtain⟨h3,hi3⟩:=hp3;obtain⟨e1,e2,e3,_⟩:=fin (some .ret) W3 h3
     exact⟨_,_,e1,.inr ⟨rfl,.ret,hturnx hi3,e2,e3⟩⟩
    | exit id=>
     obtain⟨h3,hi3⟩:=hp3;obtain⟨e1,e2,e3,_⟩:=fin (some (.exit id)) W3 h3
     exact⟨_,_,e1,.inr ⟨rfl,.exit id,hturnx hi3,e2,e3⟩⟩
    | goto t=>
     obtain⟨h3,hi3⟩:=hp3;obtain⟨e1,e2,e3,_⟩:=fin (some (.goto t)) W3 h3
     exact⟨_,_,e1,.inr ⟨rfl,.goto t,hturnx hi3,e2,e3⟩⟩
    | panic ch=>exact hp3.elim
    | outgrown=>exact hp3.elim
   | exit id=>exact hq.elim
   | goto t=>exact hq.elim
   | ret=>exact hq.elim
   | panic ch=>exact hq.elim
   | outgrown=>exact hq.elim
 · rintro e W2 ⟨⟨v,rfl⟩,(⟨xs,hS,hi,hl,hk,_⟩ | ⟨pre,hV,c,hi,hl,hk⟩)⟩
   · have hr:=run_endLoop (P:=P) hl (by rw[hrec];simp);rw[hrec] at hr;refine⟨none,_,hr,?_⟩;have:=hdone xs _ hS (hturn hi (o:=.loop { rec .ready none with state:=.exhausted })) (by rw[←hD];exact(World.putObj_heap_other (by omega)).trans hk);rw[hrec] at this;rw[hD] at this ⊢;exact this
   · have hr:=run_endLoop (P:=P) hl (by rw[hrec];simp);rw[hrec] at hr;refine⟨some c,_,hr,?_⟩;have:=hstop c pre _ hV (hturnx hi (o:=.loop { rec .done (some c) with state:=.exhausted })) (by rw[←hD];exact(World.putObj_heap_other (by omega)).trans hk);rw[hrec] at this;rw[hD] at this ⊢;exact this
def zhy {α:Type} (n:Nat) (P:Program) (g:Nat) (lb:Array Value) (encs:α→Array Value) (V S:List α→Prop) (R:Nat→Prop) (Rel:World→World→Prop) (w:World):Prop:=
 ∀(l:Nat) (J Jx:List α→World→Prop) (W:World),w.heap.size≤l→Below w.heap.size w W→
  (∀s A B,J s A→Kept (fun k=>¬R k) A B→J s B)→(∀s A B,Jx s A→Kept (fun k=>¬R k) A B→Jx s B)→
  (∀pre x W1,V (pre++[x])→J pre W1→YieldAt Fence.wide (n - 1) P l (encs x) W1 fun e W'=>
    (e=.returned (.bool true)∧J (pre++[x]) W'∧Rel W1 W')∨(e=.returned (.bool false)∧Jx (pre++[x]) W'))→
  J [] W→
  CallsIn Fence.wide n P g (#[.func (.yield l) #[] #[]]++lb) W fun e W'=>(∃v,e=.returned v)∧((∃xs,S xs∧J xs W')∨(∃pre,V pre∧Jx pre W'))
def zn8 {α:Type} (D:Nat) (Rel:World→World→Prop) (I:List α→World→Prop) (Ix:Code→List α→World→Prop) (xs:List α) (W0 W:World):Exit→Act→World→Prop
 | .normal,_,W'=>Kept (fun k=>k=D∨k=D+1) W W'∧I xs W'∧Rel W0 W'
 | .ret,_,W'=>Kept (fun k=>k=D∨k=D+1) W W'∧Ix .ret xs W'
 | .exit id,_,W'=>Kept (fun k=>k=D∨k=D+1) W W'∧Ix (.exit id) xs W'
 | .goto t,_,W'=>Kept (fun k=>k=D∨k=D+1) W W'∧Ix (.goto t) xs W'
 | .panic _,_,_=>False
 | .outgrown,_,_=>False
theorem zn9 {α:Type} {n:Nat} {P:Program} {g:Operand} {ps:Array Tmp} {assign body:Code} {Q:Exit→Act→World→Prop} {a:Act} {w:World}
 {gf:Nat} {lb:Array Value} (hg:a.eval g=.func (.func gf) #[] lb) (eg:∀args w,(callFunc gf args).run P w=.ok (.enter gf args) w)
 {encs:α→Array Value} {V S:List α→Prop} {R:Nat→Prop} {Rel:World→World→Prop} (hseq:zhy (n - 1) P gf lb encs V S R Rel w) (hps:∀x,(encs x).size=ps.size)
 (hR:∀k,R k→k<w.heap.size) (hput:∀(A B:World) (r:Loop) (o:Obj),A.heap[w.heap.size+1]?=some (.loop r)→Rel A B→Rel A (B.putObj (w.heap.size+1) o))
 (I:List α→World→Prop) (Ix:Code→List α→World→Prop)
 (hI:∀s A B,I s A→Kept (fun k=>¬R k∧k≠w.heap.size∧k≠w.heap.size+1) A B→I s B)
 (hIx:∀c s A B,Ix c s A→Kept (fun k=>¬R k∧k≠w.heap.size∧k≠w.heap.size+1) A B→Ix c s B)
 (h0:I [] w)
 (hround:∀pre x W,V (pre++[x])→I pre W→w.heap.size+2≤W.heap.size→(∃r,W.heap[w.heap.size+1]?=some (.loop r))→
   assign.wpIn (Fence.wide.inRound (w.heap.size+1)) (n - 1 - 1) P (Exit.then (fun a₁ W₁=>Kept (fun k=>k=w.heap.size∨k=w.heap.size+1) W W₁∧
    ∀W₂,Kept (fun k=>k≠w.heap.size+1) W₁ W₂→W₂.heap.size=W₁.heap.size→body.wpIn (Fence.wide.inRound (w.heap.size+1)) (n - 1 - 1) P (zn8 w.heap.size Rel I Ix (pre++[x]) W W₂) a₁ W₂) (fun _ _ _=>False))
    { tmps:=(ps.zip (encs x)).foldl (fun t (u,v)=>t.setIfInBounds u v) a.tmps,defers:=[] } W)
 (hdone:∀(xs:List α) (W:World),S xs→I xs W→W.heap[w.heap.size]?=some (.deferred (some []))→Q .normal { a with defers:={ target:=.collected w.heap.size,args:= #[] } :: a.defers } W)
 (hstop:∀(c:Code) (pre:List α) (W:World),V pre→Ix c pre W→W.heap[w.heap.size]?=some (.deferred (some []))→c.wpIn Fence.wide n P Q { a with defers:={ target:=.collected w.heap.size,args:= #[] } :: a.defers } W):
 (Code.rangeFunc g ps assign body).wpIn Fence.wide n P Q a w:=by
 refine wpIn_rangeFunc fun fn hfn=>?_
 obtain⟨D,hD⟩:∃D,D=w.heap.size:=⟨_,rfl⟩;obtain⟨rec,hrec⟩:∃rec:LoopState→Option Code→Loop,rec=fun st pe=>{ state:=st,pending:=pe,fn,tmps:=a.tmps,params:=ps,assign,body,defers:=D }:=⟨_,rfl⟩
 obtain⟨W1,hW1⟩:∃W1,(w.alloc (.deferred (some []))).alloc (.loop (rec .ready none))=W1:=⟨_,rfl⟩;have hsize:W1.heap.size=D+2:=by rw[←hW1,hD];simp
 have hL:W1.heap[D+1]?=some (.loop (rec .ready none)):=by
  rw[←hW1,hD];have h:=World.alloc_heap_new (w.alloc (.deferred (some []))) (.loop (rec .ready none));rwa [World.size_alloc] at h
 have hK:W1.heap[D]?=some (.deferred (some [])):=by
  rw[←hW1,hD];exact(Below.heap_alloc _ _ _ (by simp)).trans (World.alloc_heap_new w _)
 have hkW:Kept (fun _=>True) w W1:=by rw[←hW1];exact((Kept.refl _ w).alloc _).alloc _
 have hI1:I [] W1:=hI _ _ _ h0 (hkW.mono fun _ _ _=>trivial)
 refine⟨D+1,[{ target:=.collected D,args:= #[] }],W1,{ target:=.fn (.func gf) lb,args:= #[.func (.yield (D+1)) #[] #[]] },W1,gf,
  #[.func (.yield (D+1)) #[] #[]]++lb,W1,?_,?_,fun _ _=>trivial,?_,(fun h=>by cases h),?_⟩
 · rw[←hW1,hrec,hD];exact run_enterLoop_outer _ _ _ _ _
 · simp only[resolve,hg];simp[go_sem]
 · simp[invoke,go_sem,eg]
 have hbook:∀{A B:World},Kept (fun k=>¬R k) A B→Kept (fun k=>¬R k∧k≠w.heap.size∧k≠w.heap.size+1) A B:=fun h=>h.mono fun k _ hk=>hk.1
 have hnR:¬R D∧¬R (D+1):=⟨fun h=>by have:=hR _ h;omega,fun h=>by have:=hR _ h;omega⟩
 have hrow:∀{A B:World} {k:Nat} {o:Obj} {u:Nat→Prop},Kept u A B→u k→A.heap[k]?=some o→B.heap[k]?=some o:=fun h hu ho=>
  (h.row _ (Array.getElem?_eq_some_iff.1 ho).1 hu).trans ho
 have hturn:∀{s:List α} {A:World} {o:Obj},I s A→I s (A.putObj (D+1) o):=fun {s A o} h=>hI _ _ _ h ((Kept.refl _ A).putObj (fun _ e=>e.2.2 (by rw[hD])) o)
 have hturnx:∀{c:Code} {s:List α} {A:World} {o:Obj},Ix c s A→Ix c s (A.putObj (D+1) o):=fun {c s A o} h=>hIx _ _ _ _ h ((Kept.refl _ A).putObj (fun _ e=>e.2.2 (by rw[hD])) o)
 refine(hseq (D+1)
  (fun pre W=>I pre W∧W.heap[D+1]?=some (.loop (rec .ready none))∧W.heap[D]?=some (.deferred (some []))∧D+2≤W.heap.size)
  (fun pre W=>∃c,Ix c pre W∧W.heap[D+1]?=some (.loop (rec .done (some c)))∧W.heap[D]?=some (.deferred (some [])))
  W1 (by omega) (hkW.toBelow (fun _ _=>trivial) (Nat.le_refl _))
  (fun s A B hs h=>⟨hI _ _ _ hs.1 (hbook h),hrow h hnR.2 hs.2.1,hrow h hnR.1 hs.2.2.1,Nat.le_trans hs.2.2.2 h.size⟩)
  (fun s A B hs h=>by obtain⟨c,h1,h2,h3⟩:=hs;exact⟨c,hIx _ _ _ _ h1 (hbook h),hrow h hnR.2 h2,hrow h hnR.1 h3⟩)
  ?_ ⟨hI1,hL,hK,by omega⟩).mono ?_
 · rintro pre x W hV ⟨hi,hl,hk,hsz⟩;have hy:=run_yield (P:=P) (args:=encs x) hl (by rw[hrec];exact hps x);rw[hrec] at hy;refine⟨fn,_,assign,body,hy,roundIn_of_wpIn hfn ?_⟩;rw[hD];refine wpIn_mono (hround pre x W hV hi (by omega) ⟨_,by rw[←hD];exact hl⟩) ?_;rintro e a₁ Wa hq
   cases e with
   | normal=>
    obtain⟨hka,hbody⟩:=hq;have hl1:Wa.heap[D+1]?=some (.loop (rec .ready none)):=hrow hka (by rw[hD];exact .inr rfl) hl;have hk1:Wa.heap[D]?=some (.deferred (some [])):=hrow hka (by rw[hD];exact .inl rfl) hk;rw[←hD];refine⟨_,run_beginRound hl1 (by rw[hrec]),?_⟩;obtain⟨Wb,hWb⟩:∃Wb,Wb=Wa.putObj (D+1) (.loop { rec .ready none with state:=.busy }):=⟨_,rfl⟩;rw[←hWb];have hlt:D+1<Wa.heap.size:=(Array.getElem?_eq_some_iff.1 hl1).1;have hl2:Wb.heap[D+1]?=some (.loop { rec .ready none with state:=.busy }):=by rw[hWb];exact World.putObj_heap_same hlt
    have hk2:Wb.heap[D]?=some (.deferred (some [])):=by rw[hWb];exact(World.putObj_heap_other (by omega)).trans hk1
    have hab:Kept (fun k=>k≠w.heap.size+1) Wa Wb:=by rw[hWb];exact(Kept.refl _ Wa).putObj (fun _ e=>e (by rw[hD])) _
    have hb2:=hbody Wb hab (by rw[hWb];simp);rw[←hD] at hb2;refine wpIn_mono hb2 ?_
    have fin:∀(jump:Option Code) (W3:World),Kept (fun k=>k=D∨k=D+1) Wb W3→
     (Instr.endRound (D+1) jump).run P W3=.ok (.bool jump.isNone) (W3.putObj (D+1) (.loop (rec (if jump.isNone then .ready else .done) jump)))∧
     (W3.putObj (D+1) (.loop (rec (if jump.isNone then .ready else .done) jump))).heap[D+1]?=some (.loop (rec (if jump.isNone then .ready else .done) jump))∧
     (W3.putObj (D+1) (.loop (rec (if jump.isNone then .ready else .done) jump))).heap[D]?=some (.deferred (some []))∧D+2≤W3.heap.size:=by
     intro jump W3 h3;have hl3:=hrow h3 (.inr rfl) hl2;have hk3:=hrow h3 (.inl rfl) hk2;have hlt3:=(Array.getElem?_eq_some_iff.1 hl3).1;have hr:=run_endRound (P:=P) jump hl3;rw[hrec] at hr ⊢;exact⟨hr,World.putObj_heap_same hlt3,(World.putObj_heap_other (by omega)).trans hk3,by omega⟩
    rintro e a3 W3 hp3
    cases e with
    | normal=>
     obtain⟨h3,hi3,hr3⟩:=hp3;obtain⟨e1,e2,e3,e4⟩:=fin none W3 h3
     exact⟨_,_,e1,.inl ⟨rfl,⟨hturn hi3,e2,e3,by simpa using e4⟩,by rw[hD];exact hput _ _ _ _ (by rw[←hD];exact hl) hr3⟩⟩
    | ret=>
     obtain⟨h3,hi3⟩:=hp3;obtain⟨e1,e2,e3,_⟩:=fin (some .ret) W3 h3
     exact⟨_,_,e1,.inr ⟨rfl,.ret,hturnx hi3,e2,e3⟩⟩
    | exit id=>
     obtain⟨h3,hi3⟩:=hp3;obtain⟨e1,e2,e3,_⟩:=fin (some (.exit id)) W3 h3
     exact⟨_,_,e1,.inr ⟨rfl,.exit id,hturnx hi3,e2,e3⟩⟩
    | goto t=>
     obtain⟨h3,hi3⟩:=hp3;obtain⟨e1,e2,e3,_⟩:=fin (some (.goto t)) W3 h3
     exact⟨_,_,e1,.inr ⟨rfl,.goto t,hturnx hi3,e2,e3⟩⟩
    | panic ch=>exact hp3.elim
    | outgrown=>exact hp3.elim
   | exit id=>exact hq.elim
   | goto t=>exact hq.elim
   | ret=>exact hq.elim
   | panic ch=>exact hq.elim
   | outgrown=>exact hq.elim
 · rintro e W2 ⟨⟨v,rfl⟩,(⟨xs,hS,hi,hl,hk,_⟩ | ⟨pre,hV,c,hi,hl,hk⟩)⟩
   · have hr:=run_endLoop (P:=P) hl (by rw[hrec];simp);rw[hrec] at hr;refine⟨none,_,hr,?_⟩;have:=hdone xs _ hS (hturn hi (o:=.loop { rec .ready none with state:=.exhausted })) (by rw[←hD];exact(World.putObj_heap_other (by omega)).trans hk);rw[hrec] at this;rw[hD] at this ⊢;exact this
   · have hr:=run_endLoop (P:=P) hl (by rw[hrec];simp);rw[hrec] at hr;refine⟨some c,_,hr,?_⟩;have:=hstop c pre _ hV (hturnx hi (o:=.loop { rec .done (some c) with state:=.exhausted })) (by rw[←hD];exact(World.putObj_heap_other (by omega)).trans hk);rw[hrec] at this;rw[hD] at this ⊢;exact this
end
section
open Go.RowKit
theorem zco (w:World) (x y z:Value) (T:TypeId) (w':World) (h:Below (w.alloc (.cells #[x,y,z] T)).heap.size (w.alloc (.cells #[x,y,z] T)) w'):
 w'.cell? ⟨w.heap.size,0,none⟩=some x∧w'.cell? ⟨w.heap.size,1,none⟩=some y∧w'.cell? ⟨w.heap.size,2,none⟩=some z:=by
 have hrow:(w.alloc (.cells #[x,y,z] T)).heap[w.heap.size]?=some (.cells #[x,y,z] T):=vp rfl
 exact⟨(h.cell (p:=⟨w.heap.size,0,none⟩) (by simp)).trans (j0 (i:=0) hrow rfl),
  (h.cell (p:=⟨w.heap.size,1,none⟩) (by simp)).trans (j0 (i:=1) hrow rfl),
  (h.cell (p:=⟨w.heap.size,2,none⟩) (by simp)).trans (j0 (i:=2) hrow rfl)⟩
theorem zoa (e f:Ent) (a d:Option Addr) (n c m k:Nat) (w:World) (hI:Ivs w a n c e.2.2) (hJ:Ivs w d m k f.2.2):
 Calls Tryz.prog 101 #[zdn e (.slice a n c),zdn f (.slice d m k)] w fun x w'=>x=.returned (.bool (decide (e=f)))∧Below w.heap.size w w':=by
 obtain⟨r,x,hs⟩:=e;obtain⟨r',x',hs'⟩:=f;simp only at hI hJ;obtain⟨W1,hW1⟩:∃W1,W1=w.alloc (.cells #[.int .u64 r,.int .u64 x,.slice a n c] 93):=⟨_,rfl⟩;have hal:Below w.heap.size w W1:=by rw[hW1];exact(Below.refl _ _).alloc (Nat.le_refl _) _
 have hsz:W1.heap.size=w.heap.size+1:=by rw[hW1];simp
 have hal2:Below W1.heap.size W1 (W1.alloc (.cells #[.int .u64 r',.int .u64 x',.slice d m k] 93)):=(Below.refl _ _).alloc (Nat.le_refl _) _;obtain⟨q0,q1,q2⟩:=zco w (.int .u64 r) (.int .u64 x) (.slice a n c) 93 (W1.alloc (.cells #[.int .u64 r',.int .u64 x',.slice d m k] 93)) (hW1 ▸ hal2);obtain⟨q3,q4,q5⟩:=zco W1 (.int .u64 r') (.int .u64 x') (.slice d m k) 93 _ (Below.refl _ _);have HA:=hid (hal.trans (hal2.mono hal.size));have hC:=hid (zhn a d n c m k hs hs' _ (hI.below HA.out) (hJ.below HA.out));rw[hW1] at q0 q1 q2 q3 q4 q5 HA hC;simp only[World.size_alloc] at q3 q4 q5
 have hdec:decide (((r,x,hs):Ent)=(r',x',hs'))=((decide (r=r') && decide (x=x')) && decide (hs=hs')):=by
  rw[Bool.eq_iff_iff];simp[and_assoc]
 rw[hdec];clear hI hJ hal hal2 hsz hdec hW1;generalize decide (hs=hs')=b at*;by_cases h1:r=r'
 · subst h1;by_cases h2:x=x'
   · subst h2;have d1:True:=trivial;have d2:True:=trivial;go_enter Tryz.func101,Tryz.ntmps101;go_wp2_with fail;refine hC.out.mono ?_;rintro e w1 ⟨rfl,hb1⟩;have Hb1:=hid hb1;clear hb1;go_wp2;go_ret;exact⟨by simp,HA.out.trans (Hb1.out.mono HA.out.size)⟩
   · have d1:True:=trivial;have d2:decide (x=x')=false:=by simpa using h2
     have t2:(((x:Nat):Int) == ((x':Nat):Int))=false:=by rw[beq_eq_false_iff_ne];omega
     clear h2;go_enter Tryz.func101,Tryz.ntmps101;go_wp2;go_ret;exact⟨by simp[d2],HA.out⟩
 · have d1:decide (r=r')=false:=by simpa using h1
   have t1:(((r:Nat):Int) == ((r':Nat):Int))=false:=by rw[beq_eq_false_iff_ne];omega
   clear h1;go_enter Tryz.func101,Tryz.ntmps101;go_wp2;go_ret;exact⟨by simp[d1],HA.out⟩
def j4 (l:List Nat) (p:Nat):Nat×Nat×Err:=
 match zk (l.drop p) 0 0 with
 | (1,x,j)=>(x,p+j,none)
 | (2,_,_)=>(0,0,some (6,some (p:Int)))
 | _=>(0,0,some (5,some (p:Int)))
theorem zob (l:List Nat) (k:Nat) (h:k<l.length):l.drop k=nth l k :: l.drop (k+1):=by
 rw[List.drop_eq_getElem_cons h];simp[nth,h]
theorem zhz (c:Nat) (h:zi 9 c=0):False:=by
 unfold zi at h;split at h
 · cases h
 · split at h
   · cases h
   · omega
theorem zfd (n c:Nat):zi n c=0∨zi n c=1∨zi n c=2:=by
 unfold zi;split
 · exact .inr (.inr rfl)
 · split
   · exact .inr (.inl rfl)
   · exact .inl rfl
theorem zh0 (a:Option Addr) (n cap p:Nat) (l:List Nat) (w:World) (hB:Byts w a n cap l) (hp:p≤n):
 Calls Tryz.prog 57 #[.slice a n cap,.int .i64 p] w fun e w'=>e=.returned (.tuple #[.int .u64 ((j4 l p).1:Nat),.int .i64 ((j4 l p).2.1:Nat),zh (j4 l p).2.2])∧Below w.heap.size w w':=by
 have HB:=hid hB;obtain⟨hn,hlt,hnc,hcm,hnil,hc⟩:=hB;clear hnil;have hm:n≤9223372036854775807:=by omega
 have Hlt:=hid hlt;clear hlt;by_cases hpn:p<n
 · obtain⟨b,o,rfl,hcell⟩:=hc (by omega);have Hcell:=hid hcell;clear hcell hc;have Hn:=hid hn;clear hn;have hpc:¬cap=p:=by omega
   go_enter Tryz.func57,Tryz.ntmps57;go_wp2_with fail
   have HR0:=hid (show RdV w (w.alloc (.cells #[.int .u64 0,.int .i64 0,.int .i64 0] 135)) w.heap.size 0 0 0 from
    ⟨(Below.refl _ _).alloc (Nat.le_refl _) _,Nat.le_refl _,by simp only[World.size_alloc];omega,World.cell?_alloc_new _ _ _ _,World.cell?_alloc_new _ _ _ _,World.cell?_alloc_new _ _ _ _,World.frozen?_alloc_new _ _ _ _,World.frozen?_alloc_new _ _ _ _,World.frozen?_alloc_new _ _ _ _,by omega⟩)
   generalize w.alloc (.cells #[.int .u64 0,.int .i64 0,.int .i64 0] 135)=w0 at*;generalize hg:w.heap.size=g at*;have Hg:=hid hg;clear hg;have hcast:((n - p:Nat):Int)=(n:Int) - (p:Int):=by omega
   have Hres:=hid (fun st x j (h:zk (l.drop p) 0 0=(st,x,j))=>(show j4 l p=(match (st,x,j) with | (1,x,j)=>(x,p+j,none) | (2,_,_)=>(0,0,some (6,some (p:Int))) | _=>(0,0,some (5,some (p:Int)))) from by unfold j4;rw[h]));generalize hmm:n - p=m at*;have Hm:=hid hmm;clear hmm hcast;go_loopw [9,22] (fun _ i wr=>∃k x:Nat,k≤m∧k<10∧i=.int .i64 k∧Hid (RdV w wr g x k 0)∧Hid (zk (l.drop p) 0 0=zk (l.drop (p+k)) k x)) (fun _ i _=>m - (intOf i).toNat)
   case atStart=>exact⟨0,0,by omega,by omega,rfl,HR0.out,rfl⟩
   case round=>
    obtain⟨k,x,hk,hk10,rfl,hR,hS⟩:=hrel;by_cases hkm:k<m
    · have hBr:=HB.out.below hR.out.below;obtain⟨b',o',e',hcell'⟩:=hBr.cells (by omega);cases e';have hc:=hcell' (p+k) (by have:=Hm.out;omega);have hsum:p+k+1≤n:=by have:=Hm.out;omega
      have hnc:nth l (p+k)<256:=zgr Hlt.out (by omega) _;have Hd:=hid (zob l (p+k) (by rw[Hn.out];have:=Hm.out;omega));rw[←Nat.add_assoc] at hc;generalize nth l (p+k)=c at*;clear hcell' hBr;go_wp2_with fail;refine(zmx w _ g x k c hR.out hnc hk10).mono ?_;rintro e w2 ⟨rfl,hR2⟩;have HR2:=hid hR2;clear hR2;rcases zfd k c with hns | hns | hns
      · rw[hns];rw[hns] at HR2;have hk9:k≠9:=fun e=>zhz c (by rw[←e];exact hns)
        have HS2:=hid (show zk (l.drop p) 0 0=zk (l.drop (p+(k+1))) (k+1) (zu x k c) from by
         rw[hS.out,Hd.out];show (if zi k c=2 then _ else if zi k c=1 then _ else _)=_;rw[hns];rfl)
        clear hns;go_wp2_with fail;go_roundw
        case rel=>exact⟨k+1,_,by omega,by omega,by go_num,HR2,HS2⟩
        case measure=>simp[intOf];omega
      · rw[hns];rw[hns] at HR2;have HS2:=hid (Hres.out 1 (zu x k c) (k+1) (by rw[hS.out,Hd.out];show (if zi k c=2 then _ else if zi k c=1 then _ else _)=_;rw[hns];rfl));clear hns;go_wp2_with fail;refine(zmz w _ g _ _ HR2.out).mono ?_;rintro e w' ⟨rfl,rfl⟩;go_wp2_with fail;refine(zm0 w _ g _ _ _ HR2.out).mono ?_;rintro e w' ⟨rfl,rfl⟩;go_wp2_with fail;go_ret3
        refine⟨?_,by have:=HR2.out.below;exact this⟩;rw[HS2.out]
        rfl
      · rw[hns];have HS2:=hid (Hres.out 2 0 (k+1) (by rw[hS.out,Hd.out];show (if zi k c=2 then _ else if zi k c=1 then _ else _)=_;rw[hns];rfl));clear hns;go_wp2_with fail;refine(qm 6 p _).mono ?_;rintro e w' ⟨rfl,rfl⟩;go_wp2_with fail;go_ret3
        refine⟨?_,by have:=HR2.out.below;exact this⟩;rw[HS2.out]
        rfl
    · obtain rfl:k=m:=by omega
      have HS2:=hid (Hres.out 0 0 k (by rw[hS.out,List.drop_eq_nil_of_le (by rw[Hn.out];have:=Hm.out;omega)];rfl));go_wp2_with fail;refine(qm 5 p _).mono ?_;rintro e w' ⟨rfl,rfl⟩;go_wp2_with fail;go_ret3
      refine⟨?_,by have:=hR.out.below;exact this⟩;rw[HS2.out]
      rfl
 · obtain rfl:p=n:=by omega
   have Hr:=hid (show j4 l p=(0,0,some (5,some (p:Int))) from by unfold j4;rw[List.drop_eq_nil_of_le (by omega)];rfl);clear hc hn;go_enter Tryz.func57,Tryz.ntmps57;go_wp2_with fail;refine(qm 5 p _).mono ?_;rintro e w' ⟨rfl,rfl⟩;go_wp2_with fail;go_ret3
   refine⟨?_,(Below.refl _ _).alloc (Nat.le_refl _) _⟩;rw[Hr.out]
   rfl
end
section
def zal (e:Ent) (i:Nat):Option (Nat×Nat):=if e.2.1<(zb e.2.2 i).2 then some (4,i) else none
def ckE (e:Ent):Option (Nat×Nat):=match ck e.2.2 with | some x=>some x | none=>qy (zal e) e.2.2.length
def zcp (v:Vec) (i:Nat):Option (Nat×Nat):=match ckE (zf v i) with | some x=>some (x.1,i) | none=>if 0<i∧(zf v i).1≤(zf v (i - 1)).1 then some (3,i) else none
def ckV (v:Vec):Option (Nat×Nat):=qy (zcp v) v.length
def zdv (k:Kno) (i:Nat):Option (Nat×Nat):=match ck (zc k i).1 with | some x=>some (x.1,i) | none=>match ckV (zc k i).2 with | some x=>some (x.1,i) | none=>none
def ckF (k:Kno):Option (Nat×Nat):=qy (zdv k) k.length
theorem zh1 {l:List Iv} {x:Nat×Nat} (h:ck l=some x):x.1≠0:=by
 obtain⟨k,-,-,h3⟩:=zfc h;unfold zbo at h3;split at h3
 · cases h3;simp
 · split at h3 <;> cases h3;simp
theorem zh2 {e:Ent} {x:Nat×Nat} (h:ckE e=some x):x.1≠0:=by
 unfold ckE at h;split at h
 · rename_i y hy;cases h;exact zh1 hy
 · obtain⟨k,-,-,h3⟩:=zfc h;unfold zal at h3;split at h3 <;> cases h3;simp
theorem zoc {v:Vec} {x:Nat×Nat} (h:ckV v=some x):x.1≠0:=by
 obtain⟨k,-,-,h3⟩:=zfc h;unfold zcp at h3;split at h3
 · rename_i y hy;cases h3;have:=zh2 hy;exact this
 · split at h3 <;> cases h3;simp
end
section
open Go.RowKit Go.Maps
def zP:Value:=.agg #[.slice none 0 0,.slice none 0 0]
def zh3:Value→Bool
 | .slice _ _ _=>true
 | _=>false
def zod:List Value→Bool
 | [x,y]=>zh3 x && zh3 y
 | _=>false
def isP:Value→Bool
 | .agg cs=>zod cs.toList
 | _=>false
def rP (v:Value):Option (DataW Value×List MemPlace):=if isP v=true then some (.held v,[]) else none
theorem wfU {x:Nat} (h:x<18446744073709551616):(Lit.int .u64 (x:Int)).wf=true:=by
 simp[Lit.wf,IntKind.min,IntKind.max,IntKind.signed,IntKind.bits];omega
theorem zoe {n:Int} (h:(Lit.int .u64 n).wf=true):∃x:Nat,n=(x:Int)∧x<18446744073709551616:=by
 simp[Lit.wf,IntKind.min,IntKind.max,IntKind.signed,IntKind.bits] at h;exact⟨n.toNat,by omega,by omega⟩
theorem zdw:Maps.Keyed Tryz.prog 43:=int_keyed Tryz.underlying43
theorem zof {x:Nat} (h:x<18446744073709551616):keyOf Tryz.prog 43 (.int .u64 (x:Int))=some (.int .u64 (x:Int)):=keyOf_int_mk Tryz.underlying43 (wfU h)
structure PairS (w:World) (base B n:Nat) (D:DataW Value) (S:List Nat) (G1 G2:Nat→List Iv):Prop where
 own:w.ownsMap Tryz.prog 43 rP B n D
 keys:∀r:Nat,Maps.has D (.int .u64 (r:Int))=decide (r∈S)
 vals:∀r:Nat,∃a n c a' n' c',D.atKey (.int .u64 (r:Int)) (.held zP)=.held (.agg #[.slice a n c,.slice a' n' c'])∧IvsT w base a n c (G1 r)∧IvsT w base a' n' c' (G2 r)
theorem zh4 (w:World) (base:Nat):IvsT w base none 0 0 []:=⟨ze0 w,fun h=>by omega⟩
theorem PairS.start (w:World) (base:Nat):PairS (w.alloc (.map #[] 0)) base w.heap.size 0 (.map []) [] (fun _=>[]) (fun _=>[]):=
 ⟨World.ownsMap_made _ _ _ _,fun r=>rfl,fun r=>⟨none,0,0,none,0,0,rfl,zh4 _ _,zh4 _ _⟩⟩
theorem PairS.steady {w w':World} {base B n:Nat} {D:DataW Value} {S:List Nat} {G1 G2:Nat→List Iv} (h:PairS w base B n D S G1 G2) (hs:Steady base zdq w w') (hm:w'.ownsMap Tryz.prog 43 rP B n D):PairS w' base B n D S G1 G2:=
 ⟨hm,h.keys,fun r=>by
  obtain⟨a,n,c,a',n',c',h1,h2,h3⟩:=h.vals r;exact⟨a,n,c,a',n',c',h1,h2.steady hs rfl,h3.steady hs rfl⟩⟩
theorem za5 {r x:Nat} (h:r≠x):Lit.int .u64 (r:Int)≠Lit.int .u64 (x:Int):=fun e=>h (by cases e;rfl)
theorem PairS.put {w w':World} {base B n m r:Nat} {D:DataW Value} {S:List Nat} {G1 G2:Nat→List Iv} (h:PairS w base B n D S G1 G2) (hs:Steady base zdq w w') {a:Option Addr} {k c:Nat} {a':Option Addr} {k' c':Nat} {L L':List Iv}
 (h1:IvsT w' base a k c L) (h2:IvsT w' base a' k' c' L') (hown:w'.ownsMap Tryz.prog 43 rP B m (D.put (.int .u64 (r:Int)) (.held (.agg #[.slice a k c,.slice a' k' c'])))):
 PairS w' base B m (D.put (.int .u64 (r:Int)) (.held (.agg #[.slice a k c,.slice a' k' c']))) (S++[r]) (fun x=>if x=r then L else G1 x) (fun x=>if x=r then L' else G2 x):=by
 have hI:=h.own.isMap;have hk:∀x:Nat,WideAt.IsKeyLit (.int .u64 (x:Int)):=fun _=>trivial
 refine⟨hown,fun x=>?_,fun x=>?_⟩
 · by_cases e:x=r
   · subst e;rw[has_put_same hI (hk _)];simp
   · rw[has_put_other (za5 e),h.keys x];simp[e]
 · by_cases e:x=r
   · subst e;exact⟨a,k,c,a',k',c',atKey_put_same hI (hk _) _ _,by simpa using h1,by simpa using h2⟩
   · obtain⟨a1,n1,c1,a2,n2,c2,h3,h4,h5⟩:=h.vals x;exact⟨a1,n1,c1,a2,n2,c2,by rw[atKey_put_other (za5 e)];exact h3,by simpa [e] using h4.steady hs rfl,by simpa [e] using h5.steady hs rfl⟩
theorem PairS.congr {w:World} {base B n:Nat} {D:DataW Value} {S S':List Nat} {G1 G2 G1' G2':Nat→List Iv} (h:PairS w base B n D S G1 G2) (hS:∀r,r∈S↔r∈S') (h1:∀r,G1 r=G1' r) (h2:∀r,G2 r=G2' r):PairS w base B n D S' G1' G2':=
 ⟨h.own,fun r=>by rw[h.keys r];simp[hS r],fun r=>by rw[←h1,←h2];exact h.vals r⟩
theorem zfe {w w':World} (h:Below w.heap.size w w'):w.grownBy w' none:=⟨h.os,h.tape,h.output,h.size,fun k hk _=>h.block k hk⟩
theorem zh5 {H:Type} {w:World} {ops:Array Oper} {rest:List Oper} {o:Oper} {a:Act} {Q:Exit→Act→World→Prop} (hg:o.guard=none) (it:Operand) (hop:o.op=Op.next it false) (R:Value→Option (DataW H×List MemPlace))
 (b r n:Nat) (D:DataW H) (left:Lit→Bool) (cnt:Nat) (hit:a.eval it=.pointer (some ⟨r,0,none⟩)) (h:w.ranges Tryz.prog 43 R b r n D left cnt)
 (hDone:(∀kl,left kl=false)→wpList Tryz.prog ops Q rest (a.put o.dst (.tuple #[.bool false])) w)
 (hMore:∀(x:Nat) (u:Value) (w':World) (cnt':Nat),x<18446744073709551616→left (.int .u64 (x:Int))=true→Maps.has D (.int .u64 (x:Int))=true→
   w'.ranges Tryz.prog 43 R b r n D (fun z=>left z && !z.sameKey (.int .u64 (x:Int))) cnt'→cnt'<cnt→w.grownBy w' (some r)→w'.heap.size=w.heap.size→
   (Instr.entry (.pointer (some ⟨r,0,none⟩))).run Tryz.prog w'=.ok (.tuple #[.int .u64 (x:Int),u]) w'→wpList Tryz.prog ops Q rest (a.put o.dst (.tuple #[.bool true,.int .u64 (x:Int),u])) w'):
 wpList Tryz.prog ops Q (o :: rest) a w:=by
 refine wpList_plain hg fun K' hK'=>?_
 unfold Oper.wp;rcases h.next zdw o.type with ⟨h0,hl,hrun⟩ | ⟨key,v,kl,y,w',cnt',hkey,hlk,hv,hat,hrun,hrg,hlt,hgr,hsz,hen⟩
 · simp[execOp,hop,hit,hrun,Result.andThen];exact hK' _ _ (hDone hl)
 · obtain⟨x,rfl,rfl,hwx⟩:=Maps.keyOf_int_inv Tryz.underlying43 hkey;obtain⟨x,rfl,hx⟩:=zoe hwx;simp[execOp,hop,hit,hrun,Result.andThen];exact hK' _ _ (hMore x v w' cnt' hx hlk (has_true_of_atKey hat) hrg hlt hgr hsz hen)
end
section
open Go.RowKit
theorem Ents.at {w:World} {b o n cap:Nat} {v:Vec} (h:Ents w (some ⟨b,o,none⟩) n cap v) {k:Nat} (hk:k<n):∀w',Below w.heap.size w w'→
 w'.cell? ⟨b,o+k*3,none⟩=some (.int .u64 (((zf v k).1:Nat):Int))∧w'.cell? ⟨b,o+k*3+1,none⟩=some (.int .u64 (((zf v k).2.1:Nat):Int))∧
  ∃x m c,w'.cell? ⟨b,o+k*3+2,none⟩=some (.slice x m c)∧Ivs w' x m c (zf v k).2.2:=by
 intro w' hb;obtain⟨b',o',hs,hc⟩:=h.cells (by omega);cases hs;obtain⟨h1,h2,x,m,c,h3,h4⟩:=hc k hk;exact⟨(hb.cell (p:=⟨b,o+k*3,none⟩) (ze h1)).trans h1,(hb.cell (p:=⟨b,o+k*3+1,none⟩) (ze h2)).trans h2,x,m,c,(hb.cell (p:=⟨b,o+k*3+2,none⟩) (ze h3)).trans h3,h4.below hb⟩
theorem Ents.fix {w:World} {b o n cap:Nat} {v:Vec} (h:Ents w (some ⟨b,o,none⟩) n cap v) {k:Nat} (hk:k<n):∃x m c,∀w',Below w.heap.size w w'→
 w'.cell? ⟨b,o+k*3,none⟩=some (.int .u64 (((zf v k).1:Nat):Int))∧w'.cell? ⟨b,o+k*3+1,none⟩=some (.int .u64 (((zf v k).2.1:Nat):Int))∧
  w'.cell? ⟨b,o+k*3+2,none⟩=some (.slice x m c)∧Ivs w' x m c (zf v k).2.2:=by
 obtain⟨b',o',hs,hc⟩:=h.cells (by omega);cases hs;obtain⟨h1,h2,x,m,c,h3,h4⟩:=hc k hk;exact⟨x,m,c,fun w' hb=>⟨(hb.cell (p:=⟨b,o+k*3,none⟩) (ze h1)).trans h1,(hb.cell (p:=⟨b,o+k*3+1,none⟩) (ze h2)).trans h2,(hb.cell (p:=⟨b,o+k*3+2,none⟩) (ze h3)).trans h3,h4.below hb⟩⟩
theorem Ents.some {w:World} {a:Option Addr} {n cap:Nat} {v:Vec} (h:Ents w a n cap v) (hn:0<n):∃b o,a=some ⟨b,o,none⟩:=by
 obtain⟨b,o,ha,-⟩:=h.cells hn;exact⟨b,o,ha⟩
set_option maxRecDepth 20000 in
theorem zog (a d:Option Addr) (n c n' c':Nat) (v u:Vec) (w:World) (hE:Ents w a n c v) (hF:Ents w d n' c' u):
 Calls Tryz.prog 60 #[.slice a n c,.slice d n' c'] w fun x w'=>x=.returned (.bool (decide (v=u)))∧Below w.heap.size w w':=by
 have HE:=hid hE;have HF:=hid hF;have Hl:=hid hE.len;have Hl':=hid hF.len;have hm:n≤9223372036854775807:=Nat.le_trans hE.room hE.most;have hm':n'≤9223372036854775807:=Nat.le_trans hF.room hF.most;clear hE hF;by_cases hne:n=n'
 · subst hne;have hz:((n:Int) != (n:Int))=false:=by simp
   go_enter Tryz.func60,Tryz.ntmps60;go_wp2;go_loopw [5] (fun i wr=>∃k:Nat,k≤n∧i=.int .i64 k∧Below w.heap.size w wr∧Hid (∀j,j<k→zf v j=zf u j)) (fun i _=>n - (intOf i).toNat)
   case atStart=>exact⟨0,by omega,rfl,Below.refl _ _,fun j h=>by omega⟩
   case round=>
    obtain⟨k,hk,rfl,hb,ht⟩:=hrel;have Hb:=hid hb;clear hb;by_cases hkn:k<n
    · have HEr:=hid (HE.out.below Hb.out);have HFr:=hid (HF.out.below Hb.out);obtain⟨bb,oo,rfl⟩:=HEr.out.some (by omega);obtain⟨bd,od,rfl⟩:=HFr.out.some (by omega);obtain⟨x,m,e,hq⟩:=HEr.out.fix hkn;obtain⟨y,m',e',hp⟩:=HFr.out.fix hkn;have Hq:=hid hq;have Hp:=hid hp;have hC:=hid (fun w' (h:Below wr.heap.size wr w')=>zoa (zf v k) (zf u k) x y m e m' e' w' (hq w' h).2.2.2 (hp w' h).2.2.2)
      have Hst:=hid (show decide (zf v k=zf u k)=true→∀j,j<k+1→zf v j=zf u j from fun h j hj=>by
       by_cases e:j=k
       · rw[e];exact of_decide_eq_true h
       · exact ht.out j (by omega))
      have Hno:=hid (show decide (zf v k=zf u k)=false→v≠u from fun h h2=>by rw[h2] at h;simp at h);have h0:(0:Int)≤k:=by omega
      have h04:(k:Int)<(n:Int):=by omega
      clear hq hp;generalize decide (zf v k=zf u k)=dd at*;generalize zf v k=f at*;generalize zf u k=g at*;obtain⟨fr,fm,fh⟩:=f;obtain⟨gr,gm,gh⟩:=g;simp only at Hq Hp;go_wp2_with fail;go_cut [26] (fun t wc=>t=.bool (!dd)∧Hid (Below wr.heap.size wr wc))
      case first=>
       refine zae (by kernel_rfl) (by kernel_rfl) ?_
       repeat (go_big_quiet_step ((intro hw;first
        | rfl
        | (have q0:=Hq.out _ hw
           have q1:=q0.1;have q2:=q0.2.1;have q3:=q0.2.2.1;have p0:=Hp.out _ hw;have p1:=p0.1;have p2:=p0.2.1;have p3:=p0.2.2.1;clear q0 p0
           go_at_call 101;exact za2 hw (hC.out _ hw))
        | (have q0:=Hq.out _ hw
           have q1:=q0.1;have q2:=q0.2.1;have q3:=q0.2.2.1;have p0:=Hp.out _ hw;have p1:=p0.1;have p2:=p0.2.1;have p3:=p0.2.2.1;clear q0 p0;go_simp;first | rfl | exact⟨rfl,hw⟩ | (trace_state;fail)))))
       refine wpQuiet_nil ?_;intro w3 hb3;go_wp2;go_meet
       exact⟨rfl,hb3⟩
      case rest=>
       obtain⟨rfl,hb2⟩:=hcut;have Hb2:=hid (Hb.out.trans (hb2.out.mono Hb.out.size));clear hb2
       cases dd with
       | true=>
        have Hs:=hid (Hst.out rfl);rw[Bool.not_true];go_wp2;go_roundw
        case rel=>exact⟨k+1,by omega,by go_num,Hb2.out,Hs.out⟩
        case measure=>simp[intOf];omega
       | false=>
        have Hs:=hid (show decide (v=u)=false from by rw[decide_eq_false_iff_not];exact Hno.out rfl);rw[Bool.not_false];go_wp2;go_ret;exact⟨by rw[Hs.out];rfl,Hb2.out⟩
    · obtain rfl:k=n:=by omega
      have Hs:=hid (show decide (v=u)=true from by
       rw[decide_eq_true_iff];refine List.ext_getElem (by rw[Hl.out,Hl'.out]) fun i h1 h2=>?_
       have:=ht.out i (by rw[←Hl.out];exact h1);rwa [jq h1,jq h2] at this)
      go_wp2;go_ret;exact⟨by rw[Hs.out];rfl,Hb.out⟩
 · have hz:((n:Int) != (n':Int))=true:=by rw[bne_iff_ne];omega
   have Hs:=hid (show decide (v=u)=false from by
    rw[decide_eq_false_iff_not];intro h;apply hne;rw[←Hl.out,←Hl'.out,h])
   clear hne;go_enter Tryz.func60,Tryz.ntmps60;go_wp2;go_ret;exact⟨by rw[Hs.out];rfl,Below.refl _ _⟩
theorem zoh {w':World} {g:Nat} {x y z:Value} {T:TypeId} (hr:w'.heap[g]?=some (.cells #[x,y,z] T)):
 w'.cell? ⟨g,0,none⟩=some x∧w'.cell? ⟨g,1,none⟩=some y∧w'.cell? ⟨g,2,none⟩=some z∧w'.frozen? ⟨g,0,none⟩=false∧w'.frozen? ⟨g,1,none⟩=false∧w'.frozen? ⟨g,2,none⟩=false:=
 ⟨j0 (i:=0) hr rfl,j0 (i:=1) hr rfl,j0 (i:=2) hr rfl,by simp[World.frozen?,hr],by simp[World.frozen?,hr],by simp[World.frozen?,hr]⟩
