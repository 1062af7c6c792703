/- Part 08. -/
import Derived.Test.YtdnipikdddfhfaaGreatDoorWd07
set_option linter.unusedVariables false
set_option maxHeartbeats 16000000
namespace Go.Proofs.YtdnipikdddfhfaaGreatDoor
open Lib (hid)
section
open Go.RowKit Go.Shelf
def zm5 {α:Type} (n:Nat) (P:Program) (g:Nat) (lb:Array Value) (encs:α→Array Value) (V S:List α→Prop) (R:Nat→Prop) (Rel:World→World→Prop) (w:World):Prop:=
 ∀(l:Nat) (J Jx:List α→World→Prop) (W:World),w.heap.size≤l→Below w.heap.size w W→
  (∀s A B,J s A→Kept (fun k=>¬R k) A B→J s B)→(∀s A B,Jx s A→Kept (fun k=>¬R k) A B→Jx s B)→
  (∀pre x W1,V (pre++[x])→J pre W1→YieldAt Fence.wide (n - 1) P l (encs x) W1 fun e W'=>
    (e=.returned (.bool true)∧J (pre++[x]) W'∧Rel W1 W')∨(e=.returned (.bool false)∧Jx (pre++[x]) W'))→
  J [] W→
  CallsIn Fence.wide n P g (#[.func (.yield l) #[] #[]]++lb) W fun e W'=>(∃v,e=.returned v)∧((∃xs,S xs∧J xs W')∨(∃pre,V pre∧Jx pre W'))
def zv2 {α:Type} (D:Nat) (Rel:World→World→Prop) (I:List α→World→Prop) (Ix:Code→List α→World→Prop) (xs:List α) (W0 W:World):Exit→Act→World→Prop
 | .normal,_,W'=>Kept (fun k=>k=D∨k=D+1) W W'∧I xs W'∧Rel W0 W'
 | .ret,_,W'=>Kept (fun k=>k=D∨k=D+1) W W'∧Ix .ret xs W'
 | .exit id,_,W'=>Kept (fun k=>k=D∨k=D+1) W W'∧Ix (.exit id) xs W'
 | .goto t,_,W'=>Kept (fun k=>k=D∨k=D+1) W W'∧Ix (.goto t) xs W'
 | .panic _,_,_=>False
 | .outgrown,_,_=>False
theorem zv3 {α:Type} {n:Nat} {P:Program} {g:Operand} {ps:Array Tmp} {assign body:Code} {Q:Exit→Act→World→Prop} {a:Act} {w:World}
 {gf:Nat} {lb:Array Value} (hg:a.eval g=.func (.func gf) #[] lb) (eg:∀args w,(callFunc gf args).run P w=.ok (.enter gf args) w)
 {encs:α→Array Value} {V S:List α→Prop} {R:Nat→Prop} {Rel:World→World→Prop} (hseq:zm5 (n - 1) P gf lb encs V S R Rel w) (hps:∀x,(encs x).size=ps.size)
 (hR:∀k,R k→k<w.heap.size) (hput:∀(A B:World) (r:Loop) (o:Obj),A.heap[w.heap.size+1]?=some (.loop r)→Rel A B→Rel A (B.putObj (w.heap.size+1) o))
 (I:List α→World→Prop) (Ix:Code→List α→World→Prop)
 (hI:∀s A B,I s A→Kept (fun k=>¬R k∧k≠w.heap.size∧k≠w.heap.size+1) A B→I s B)
 (hIx:∀c s A B,Ix c s A→Kept (fun k=>¬R k∧k≠w.heap.size∧k≠w.heap.size+1) A B→Ix c s B)
 (h0:I [] w)
 (hround:∀pre x W,V (pre++[x])→I pre W→w.heap.size+2≤W.heap.size→(∃r,W.heap[w.heap.size+1]?=some (.loop r))→
   assign.wpIn (Fence.wide.inRound (w.heap.size+1)) (n - 1 - 1) P (Exit.then (fun a₁ W₁=>Kept (fun k=>k=w.heap.size∨k=w.heap.size+1) W W₁∧
    ∀W₂,Kept (fun k=>k≠w.heap.size+1) W₁ W₂→W₂.heap.size=W₁.heap.size→body.wpIn (Fence.wide.inRound (w.heap.size+1)) (n - 1 - 1) P (zv2 w.heap.size Rel I Ix (pre++[x]) W W₂) a₁ W₂) (fun _ _ _=>False))
    { tmps:=(ps.zip (encs x)).foldl (fun t (u,v)=>t.setIfInBounds u v) a.tmps,defers:=[] } W)
 (hdone:∀(xs:List α) (W:World),S xs→I xs W→W.heap[w.heap.size]?=some (.deferred (some []))→Q .normal { a with defers:={ target:=.collected w.heap.size,args:= #[] } :: a.defers } W)
 (hstop:∀(c:Code) (pre:List α) (W:World),V pre→Ix c pre W→W.heap[w.heap.size]?=some (.deferred (some []))→c.wpIn Fence.wide n P Q { a with defers:={ target:=.collected w.heap.size,args:= #[] } :: a.defers } W):
 (Code.rangeFunc g ps assign body).wpIn Fence.wide n P Q a w:=by
 refine wpIn_rangeFunc fun fn hfn=>?_
 obtain⟨D,hD⟩:∃D,D=w.heap.size:=⟨_,rfl⟩;obtain⟨rec,hrec⟩:∃rec:LoopState→Option Code→Loop,rec=fun st pe=>{ state:=st,pending:=pe,fn,tmps:=a.tmps,params:=ps,assign,body,defers:=D }:=⟨_,rfl⟩
 obtain⟨W1,hW1⟩:∃W1,(w.alloc (.deferred (some []))).alloc (.loop (rec .ready none))=W1:=⟨_,rfl⟩;have hsize:W1.heap.size=D+2:=by rw[←hW1,hD];simp
 have hL:W1.heap[D+1]?=some (.loop (rec .ready none)):=by
  rw[←hW1,hD];have h:=World.alloc_heap_new (w.alloc (.deferred (some []))) (.loop (rec .ready none));rwa [World.size_alloc] at h
 have hK:W1.heap[D]?=some (.deferred (some [])):=by
  rw[←hW1,hD];exact(Below.heap_alloc _ _ _ (by simp)).trans (World.alloc_heap_new w _)
 have hkW:Kept (fun _=>True) w W1:=by rw[←hW1];exact((Kept.refl _ w).alloc _).alloc _
 have hI1:I [] W1:=hI _ _ _ h0 (hkW.mono fun _ _ _=>trivial)
 refine⟨D+1,[{ target:=.collected D,args:= #[] }],W1,{ target:=.fn (.func gf) lb,args:= #[.func (.yield (D+1)) #[] #[]] },W1,gf,
  #[.func (.yield (D+1)) #[] #[]]++lb,W1,?_,?_,fun _ _=>trivial,?_,(fun h=>by cases h),?_⟩
 · rw[←hW1,hrec,hD];exact run_enterLoop_outer _ _ _ _ _
 · simp only[resolve,hg];simp[go_sem]
 · simp[invoke,go_sem,eg]
 have hbook:∀{A B:World},Kept (fun k=>¬R k) A B→Kept (fun k=>¬R k∧k≠w.heap.size∧k≠w.heap.size+1) A B:=fun h=>h.mono fun k _ hk=>hk.1
 have hnR:¬R D∧¬R (D+1):=⟨fun h=>by have:=hR _ h;omega,fun h=>by have:=hR _ h;omega⟩
 have hrow:∀{A B:World} {k:Nat} {o:Obj} {u:Nat→Prop},Kept u A B→u k→A.heap[k]?=some o→B.heap[k]?=some o:=fun h hu ho=>
  (h.row _ (Array.getElem?_eq_some_iff.1 ho).1 hu).trans ho
 have hturn:∀{s:List α} {A:World} {o:Obj},I s A→I s (A.putObj (D+1) o):=fun {s A o} h=>hI _ _ _ h ((Kept.refl _ A).putObj (fun _ e=>e.2.2 (by rw[hD])) o)
 have hturnx:∀{c:Code} {s:List α} {A:World} {o:Obj},Ix c s A→Ix c s (A.putObj (D+1) o):=fun {c s A o} h=>hIx _ _ _ _ h ((Kept.refl _ A).putObj (fun _ e=>e.2.2 (by rw[hD])) o)
 refine(hseq (D+1)
  (fun pre W=>I pre W∧W.heap[D+1]?=some (.loop (rec .ready none))∧W.heap[D]?=some (.deferred (some []))∧D+2≤W.heap.size)
  (fun pre W=>∃c,Ix c pre W∧W.heap[D+1]?=some (.loop (rec .done (some c)))∧W.heap[D]?=some (.deferred (some [])))
  W1 (by omega) (hkW.toBelow (fun _ _=>trivial) (Nat.le_refl _))
  (fun s A B hs h=>⟨hI _ _ _ hs.1 (hbook h),hrow h hnR.2 hs.2.1,hrow h hnR.1 hs.2.2.1,Nat.le_trans hs.2.2.2 h.size⟩)
  (fun s A B hs h=>by obtain⟨c,h1,h2,h3⟩:=hs;exact⟨c,hIx _ _ _ _ h1 (hbook h),hrow h hnR.2 h2,hrow h hnR.1 h3⟩)
  ?_ ⟨hI1,hL,hK,by omega⟩).mono ?_
 · rintro pre x W hV ⟨hi,hl,hk,hsz⟩;have hy:=run_yield (P:=P) (args:=encs x) hl (by rw[hrec];exact hps x);rw[hrec] at hy;refine⟨fn,_,assign,body,hy,roundIn_of_wpIn hfn ?_⟩;rw[hD];refine wpIn_mono (hround pre x W hV hi (by omega) ⟨_,by rw[←hD];exact hl⟩) ?_;rintro e a₁ Wa hq
   cases e with
   | normal=>
    obtain⟨hka,hbody⟩:=hq;have hl1:Wa.heap[D+1]?=some (.loop (rec .ready none)):=hrow hka (by rw[hD];exact .inr rfl) hl;have hk1:Wa.heap[D]?=some (.deferred (some [])):=hrow hka (by rw[hD];exact .inl rfl) hk;rw[←hD];refine⟨_,run_beginRound hl1 (by rw[hrec]),?_⟩;obtain⟨Wb,hWb⟩:∃Wb,Wb=Wa.putObj (D+1) (.loop { rec .ready none with state:=.busy }):=⟨_,rfl⟩;rw[←hWb];have hlt:D+1<Wa.heap.size:=(Array.getElem?_eq_some_iff.1 hl1).1;have hl2:Wb.heap[D+1]?=some (.loop { rec .ready none with state:=.busy }):=by rw[hWb];exact World.putObj_heap_same hlt
    have hk2:Wb.heap[D]?=some (.deferred (some [])):=by rw[hWb];exact(World.putObj_heap_other (by omega)).trans hk1
    have hab:Kept (fun k=>k≠w.heap.size+1) Wa Wb:=by rw[hWb];exact(Kept.refl _ Wa).putObj (fun _ e=>e (by rw[hD])) _
    have hb2:=hbody Wb hab (by rw[hWb];simp);rw[←hD] at hb2;refine wpIn_mono hb2 ?_
    have fin:∀(jump:Option Code) (W3:World),Kept (fun k=>k=D∨k=D+1) Wb W3→
     (Instr.endRound (D+1) jump).run P W3=.ok (.bool jump.isNone) (W3.putObj (D+1) (.loop (rec (if jump.isNone then .ready else .done) jump)))∧
     (W3.putObj (D+1) (.loop (rec (if jump.isNone then .ready else .done) jump))).heap[D+1]?=some (.loop (rec (if jump.isNone then .ready else .done) jump))∧
     (W3.putObj (D+1) (.loop (rec (if jump.isNone then .ready else .done) jump))).heap[D]?=some (.deferred (some []))∧D+2≤W3.heap.size:=by
     intro jump W3 h3;have hl3:=hrow h3 (.inr rfl) hl2;have hk3:=hrow h3 (.inl rfl) hk2;have hlt3:=(Array.getElem?_eq_some_iff.1 hl3).1;have hr:=run_endRound (P:=P) jump hl3;rw[hrec] at hr ⊢;exact⟨hr,World.putObj_heap_same hlt3,(World.putObj_heap_other (by omega)).trans hk3,by omega⟩
    rintro e a3 W3 hp3
    cases e with
    | normal=>
     obtain⟨h3,hi3,hr3⟩:=hp3;obtain⟨e1,e2,e3,e4⟩:=fin none W3 h3
     exact⟨_,_,e1,.inl ⟨rfl,⟨hturn hi3,e2,e3,by simpa using e4⟩,by rw[hD];exact hput _ _ _ _ (by rw[←hD];exact hl) hr3⟩⟩
    | ret=>
     obtain⟨h3,hi3⟩:=hp3;obtain⟨e1,e2,e3,_⟩:=fin (some .ret) W3 h3
     exact⟨_,_,e1,.inr ⟨rfl,.ret,hturnx hi3,e2,e3⟩⟩
    | exit id=>
     obtain⟨h3,hi3⟩:=hp3;obtain⟨e1,e2,e3,_⟩:=fin (some (.exit id)) W3 h3
     exact⟨_,_,e1,.inr ⟨rfl,.exit id,hturnx hi3,e2,e3⟩⟩
    | goto t=>
     obtain⟨h3,hi3⟩:=hp3;obtain⟨e1,e2,e3,_⟩:=fin (some (.goto t)) W3 h3
     exact⟨_,_,e1,.inr ⟨rfl,.goto t,hturnx hi3,e2,e3⟩⟩
    | panic ch=>exact hp3.elim
    | outgrown=>exact hp3.elim
   | exit id=>exact hq.elim
   | goto t=>exact hq.elim
   | ret=>exact hq.elim
   | panic ch=>exact hq.elim
   | outgrown=>exact hq.elim
 · rintro e W2 ⟨⟨v,rfl⟩,(⟨xs,hS,hi,hl,hk,_⟩ | ⟨pre,hV,c,hi,hl,hk⟩)⟩
   · have hr:=run_endLoop (P:=P) hl (by rw[hrec];simp);rw[hrec] at hr;refine⟨none,_,hr,?_⟩;have:=hdone xs _ hS (hturn hi (o:=.loop { rec .ready none with state:=.exhausted })) (by rw[←hD];exact(World.putObj_heap_other (by omega)).trans hk);rw[hrec] at this;rw[hD] at this ⊢;exact this
   · have hr:=run_endLoop (P:=P) hl (by rw[hrec];simp);rw[hrec] at hr;refine⟨some c,_,hr,?_⟩;have:=hstop c pre _ hV (hturnx hi (o:=.loop { rec .done (some c) with state:=.exhausted })) (by rw[←hD];exact(World.putObj_heap_other (by omega)).trans hk);rw[hrec] at this;rw[hD] at this ⊢;exact this
end
section
open Go.RowKit
def zbz (l:List Nat) (p:Nat):Nat×Nat×Err:=
 match yg (l.drop p) 0 0 with
 | (1,x,j)=>(x,p+j,none)
 | (2,_,_)=>(0,0,some (6,some (p:Int)))
 | _=>(0,0,some (5,some (p:Int)))
theorem zm6 (l:List Nat) (k:Nat) (h:k<l.length):l.drop k=nth l k :: l.drop (k+1):=by
 rw[List.drop_eq_getElem_cons h];simp[nth,h]
theorem zm7 (c:Nat) (h:yf 9 c=0):False:=by
 unfold yf at h;split at h
 · cases h
 · split at h
   · cases h
   · omega
theorem zjh (n c:Nat):yf n c=0∨yf n c=1∨yf n c=2:=by
 unfold yf;split
 · exact .inr (.inr rfl)
 · split
   · exact .inr (.inl rfl)
   · exact .inl rfl
theorem zv4 (a:Option Addr) (n cap p:Nat) (l:List Nat) (w:World) (hB:Byts w a n cap l) (hp:p≤n):
 Calls Tryz.prog 57 #[.slice a n cap,.int .i64 p] w fun e w'=>e=.returned (.tuple #[.int .u64 ((zbz l p).1:Nat),.int .i64 ((zbz l p).2.1:Nat),yt (zbz l p).2.2])∧Below w.heap.size w w':=by
 have HB:=hid hB;obtain⟨hn,hlt,hnc,hcm,hnil,hc⟩:=hB;clear hnil;have hm:n≤9223372036854775807:=by omega
 have Hlt:=hid hlt;clear hlt;by_cases hpn:p<n
 · obtain⟨b,o,rfl,hcell⟩:=hc (by omega);have Hcell:=hid hcell;clear hcell hc;have Hn:=hid hn;clear hn;have hpc:¬cap=p:=by omega
   go_enter Tryz.func57,Tryz.ntmps57;go_wp2_with fail
   have HR0:=hid (show RdV w (w.alloc (.cells #[.int .u64 0,.int .i64 0,.int .i64 0] 135)) w.heap.size 0 0 0 from
    ⟨(Below.refl _ _).alloc (Nat.le_refl _) _,Nat.le_refl _,by simp only[World.size_alloc];omega,World.cell?_alloc_new _ _ _ _,World.cell?_alloc_new _ _ _ _,World.cell?_alloc_new _ _ _ _,World.frozen?_alloc_new _ _ _ _,World.frozen?_alloc_new _ _ _ _,World.frozen?_alloc_new _ _ _ _,by omega⟩)
   generalize w.alloc (.cells #[.int .u64 0,.int .i64 0,.int .i64 0] 135)=w0 at*;generalize hg:w.heap.size=g at*;have Hg:=hid hg;clear hg;have hcast:((n - p:Nat):Int)=(n:Int) - (p:Int):=by omega
   have Hres:=hid (fun st x j (h:yg (l.drop p) 0 0=(st,x,j))=>(show zbz l p=(match (st,x,j) with | (1,x,j)=>(x,p+j,none) | (2,_,_)=>(0,0,some (6,some (p:Int))) | _=>(0,0,some (5,some (p:Int)))) from by unfold zbz;rw[h]));generalize hmm:n - p=m at*;have Hm:=hid hmm;clear hmm hcast;go_loopw [9,22] (fun _ i wr=>∃k x:Nat,k≤m∧k<10∧i=.int .i64 k∧Hid (RdV w wr g x k 0)∧Hid (yg (l.drop p) 0 0=yg (l.drop (p+k)) k x)) (fun _ i _=>m - (intOf i).toNat)
   case atStart=>exact⟨0,0,by omega,by omega,rfl,HR0.out,rfl⟩
   case round=>
    obtain⟨k,x,hk,hk10,rfl,hR,hS⟩:=hrel;by_cases hkm:k<m
    · have hBr:=HB.out.below hR.out.below;obtain⟨b',o',e',hcell'⟩:=hBr.cells (by omega);cases e';have hc:=hcell' (p+k) (by have:=Hm.out;omega);have hsum:p+k+1≤n:=by have:=Hm.out;omega
      have hnc:nth l (p+k)<256:=zl7 Hlt.out (by omega) _;have Hd:=hid (zm6 l (p+k) (by rw[Hn.out];have:=Hm.out;omega));rw[←Nat.add_assoc] at hc;generalize nth l (p+k)=c at*;clear hcell' hBr;go_wp2_with fail;refine(zuk w _ g x k c hR.out hnc hk10).mono ?_;rintro e w2 ⟨rfl,hR2⟩;have HR2:=hid hR2;clear hR2;rcases zjh k c with hns | hns | hns
      · rw[hns];rw[hns] at HR2;have hk9:k≠9:=fun e=>zm7 c (by rw[←e];exact hns)
        have HS2:=hid (show yg (l.drop p) 0 0=yg (l.drop (p+(k+1))) (k+1) (vp x k c) from by
         rw[hS.out,Hd.out];show (if yf k c=2 then _ else if yf k c=1 then _ else _)=_;rw[hns];rfl)
        clear hns;go_wp2_with fail;go_roundw
        case rel=>exact⟨k+1,_,by omega,by omega,by go_num,HR2,HS2⟩
        case measure=>simp[intOf];omega
      · rw[hns];rw[hns] at HR2;have HS2:=hid (Hres.out 1 (vp x k c) (k+1) (by rw[hS.out,Hd.out];show (if yf k c=2 then _ else if yf k c=1 then _ else _)=_;rw[hns];rfl));clear hns;go_wp2_with fail;refine(zum w _ g _ _ HR2.out).mono ?_;rintro e w' ⟨rfl,rfl⟩;go_wp2_with fail;refine(zun w _ g _ _ _ HR2.out).mono ?_;rintro e w' ⟨rfl,rfl⟩;go_wp2_with fail;go_ret3
        refine⟨?_,by have:=HR2.out.below;exact this⟩;rw[HS2.out]
        rfl
      · rw[hns];have HS2:=hid (Hres.out 2 0 (k+1) (by rw[hS.out,Hd.out];show (if yf k c=2 then _ else if yf k c=1 then _ else _)=_;rw[hns];rfl));clear hns;go_wp2_with fail;refine(zby 6 p _).mono ?_;rintro e w' ⟨rfl,rfl⟩;go_wp2_with fail;go_ret3
        refine⟨?_,by have:=HR2.out.below;exact this⟩;rw[HS2.out]
        rfl
    · obtain rfl:k=m:=by omega
      have HS2:=hid (Hres.out 0 0 k (by rw[hS.out,List.drop_eq_nil_of_le (by rw[Hn.out];have:=Hm.out;omega)];rfl));go_wp2_with fail;refine(zby 5 p _).mono ?_;rintro e w' ⟨rfl,rfl⟩;go_wp2_with fail;go_ret3
      refine⟨?_,by have:=hR.out.below;exact this⟩;rw[HS2.out]
      rfl
 · obtain rfl:p=n:=by omega
   have Hr:=hid (show zbz l p=(0,0,some (5,some (p:Int))) from by unfold zbz;rw[List.drop_eq_nil_of_le (by omega)];rfl);clear hc hn;go_enter Tryz.func57,Tryz.ntmps57;go_wp2_with fail;refine(zby 5 p _).mono ?_;rintro e w' ⟨rfl,rfl⟩;go_wp2_with fail;go_ret3
   refine⟨?_,(Below.refl _ _).alloc (Nat.le_refl _) _⟩;rw[Hr.out]
   rfl
end
section
open Go.RowKit Go.Sort
theorem zv5 (x y:Iv) (W:World):Calls Tryz.prog 130 #[.agg #[.int .u64 ((x.1:Nat):Int),.int .u64 ((x.2:Nat):Int)],.agg #[.int .u64 ((y.1:Nat):Int),.int .u64 ((y.2:Nat):Int)]] W fun e w'=>e=.returned (.int .i64 (cfI x y))∧∃q os',w'=grow (W.drewN q) os':=by
 have hcon:=fun W'=>ziu x.1 y.1 W'
 unfold cfI;generalize Lib.compareInt (x.1:Int) (y.1:Int)=r at hcon ⊢;obtain⟨a,b⟩:=x;obtain⟨c,d⟩:=y;go_enter Tryz.func130,Tryz.ntmps130;go_wp2_with (go_at_call 131;refine(hcon _).mono ?_;rintro e w' ⟨rfl,rfl⟩);go_ret;exact⟨rfl,0,_,by rw[alloc_eq_grow,alloc_eq_grow,grow_grow];rfl⟩
theorem zv6 (g size:Nat) (w:World):CmpLays Tryz.prog 130 #[] zcc 2 cfI g 0 size w:=
 fun _ _ _ _ x y=>zv5 x y _
theorem Tryz.isAgg_iv (w:World):(isAgg 89).run Tryz.prog w=.ok true w:=by go_simp
theorem Tryz.sizeOf_iv (w:World):(Go.sizeOf 89).run Tryz.prog w=.ok 2 w:=by go_simp
set_option maxRecDepth 100000 in
theorem zv7 (g n cap:Nat) (l:List Iv) (w:World) (hl:l.length=n) (hH:HoldsK zcc 2 w g 0 l.toArray) (hg:g<w.heap.size) (hn:n≤100000):
 Calls Tryz.prog 129 #[.slice (some ⟨g,0,none⟩) n cap,.func (.func 130) #[] #[]] w fun e w'=>
  e=.returned (.tuple #[])∧∃l' m os,l'.Perm l∧zds l'∧w'=sortWorldK zcc 2 w g 0 m l'.toArray os:=by
 have eg:∀args w,(callFunc 130 args).run Tryz.prog w=.ok (.enter 130 args) w:=enters_of Tryz.func130 (by kernel_rfl) rfl;have hsz:l.toArray.size=n:=by simpa using hl
 have hb:Lib.bitLen n<4611686018427387904:=Nat.lt_of_le_of_lt (Lib.bitLen_le n 62 (by omega) (by omega)) (by omega);have hp:=AnyQ.pdqsortCmpFunc_all Tryz.pdqIv 2 Tryz.isAgg_iv Tryz.sizeOf_iv zcc cfI 130 #[] zm0 g 0 cap l.toArray w eg (zv6 g l.toArray.size w) ⟨fun _=>rfl,fun x v hv=>by simp[zcc] at hv;rcases hv with rfl | rfl <;> rfl,hH,hg⟩ (l.toArray.size+1) 0 l.toArray.size (Lib.bitLen n) l.toArray w (by omega) rfl (SWK.start hH) (Nat.zero_le _) (Nat.le_refl _) (by omega) hb (Or.inl rfl);have hs:=pdq_sorts (ltOf cfI) zm0 l.toArray 0 l.toArray.size (Lib.bitLen n) true true (Nat.zero_le _) (Nat.le_refl _) (Or.inl rfl);rw[hsz] at hp;change Calls Tryz.prog 176 _ _ _ at hp;have hq:=zvh hs.1;have hsort:=zvi hs.1.1 hs.2;rw[hsz] at hq hsort;generalize pdq (ltOf cfI) l.toArray 0 n (Lib.bitLen n) true true=r at hp hq hsort;have Hl:=hid (fun w=>Tryz.bits_Len (n:Int) w (by omega) (by omega));rw[Int.toNat_natCast] at Hl;generalize Lib.bitLen n=bl at*;have Hp:=hid hp;have Hq:=hid hq;have Hs:=hid hsort;have wr:IntKind.u64.wrap (n:Int)=n:=by rw[IntKind.wrap_u64];omega
 clear hs hq hsort hp hH eg hsz hb hl;go_enter Tryz.func129,Tryz.ntmps129;go_wp2_with (first | (go_at_call 177;refine(Hl.out _).mono ?_;rintro e w' ⟨rfl,rfl⟩) | (go_at_call 176;refine Hp.out.mono ?_;rintro e w' ⟨rfl,n,os,rfl⟩));go_end0
 exact⟨rfl,r.toList,_,_,by simpa using Hq.out,Hs.out,rfl⟩
end
section
open Go.RowKit
theorem zm8 (a:Option Addr) (n cap:Nat) (l:List Iv) (w:World) (hI:Ivs w a n cap l) (hD:Door w):
 Calls Tryz.prog 124 #[.slice a n cap] w fun e w'=>e=.returned (yt (zae (ck l)))∧Below w.heap.size w w':=by
 have HD:=hid hD;clear hD;have HI:=hid hI;have Hl:=hid hI.len;have hm:n≤9223372036854775807:=Nat.le_trans hI.room hI.most;clear hI;go_enter Tryz.func124,Tryz.ntmps124;go_wp2;go_loopw [3,4,5,8] (fun _ _ _ i wr=>∃k:Nat,k≤n∧i=.int .i64 k∧Below w.heap.size w wr∧Hid (∀j,j<k→zcs l j=none)) (fun _ _ _ i _=>n - (intOf i).toNat)
 case atStart=>exact⟨0,by omega,rfl,Below.refl _ _,fun j h=>by omega⟩
 case round=>
  obtain⟨k,hk,rfl,hb,ht⟩:=hrel;have Hb:=hid hb;clear hb;by_cases hkn:k<n
  · obtain⟨bb,oo,rfl,hcell⟩:=(HI.out.below Hb.out).cells (by omega);obtain⟨hc1,hc2⟩:=hcell k hkn;have Hcell:=hid hcell;clear hcell;have Hlt:=hid (HI.out.lt (za l k) (zas (by rw[Hl.out];exact hkn)));have hin:zcs l k=if (za l k).2<(za l k).1 then some (2,k) else if 0<k∧yo (za l (k - 1)) (za l k)≠0 then some (3,k) else none:=rfl;generalize hs:za l k=s at*;have Hs:=hid hs;clear hs;by_cases h2:s.2<s.1
    · rw[if_pos h2] at hin;have Hr:=hid (show ck l=some (2,k) from zcq (by rw[Hl.out];exact hkn) ht.out hin);clear hin;have hC:=hid (fun w=>zmw s w);rw[if_pos h2] at hC;clear h2;go_wp2_with fail;refine(hC.out _).mono ?_;rintro e w1 ⟨rfl,hb1⟩;have Hb1:=hid ((Hb.out.alloc Hb.out.size _).trans (hb1.mono (Below.size (Hb.out.alloc Hb.out.size _))));clear hb1;simp only[yt];go_wp2_with fail;refine(zc4 (some (2,none)) _ (HD.out.below (Nat.le_refl _) Hb1.out)).mono ?_;rintro e w2 ⟨rfl,hb2⟩;have Hb2:=hid (Hb1.out.trans (hb2.mono Hb1.out.size));clear hb2;simp only[zcm];go_wp2_with fail;refine(zby 2 k _).mono ?_;rintro e w3 ⟨rfl,rfl⟩;go_wp2_with fail;go_ret;exact⟨by rw[Hr.out];rfl,Hb2.out⟩
    · rw[if_neg h2] at hin;have hC:=hid (fun w=>zmw s w);rw[if_neg h2] at hC;clear h2;by_cases hk0:0<k
      · obtain⟨hp1,hp2⟩:=Hcell.out (k - 1) (by omega);have Hpl:=hid (HI.out.lt (za l (k - 1)) (zas (by rw[Hl.out];omega)));generalize hp:za l (k - 1)=p at*;have Hp:=hid hp;clear hp;have hR:=hid (fun w=>zje p s w Hpl.out Hlt.out);have hg:decide (0<(k:Int))=true:=by rw[decide_eq_true_iff];omega
        have hsub:IntKind.i64.wrap ((k:Int) - 1)=(k:Int) - 1:=by rw[IntKind.wrap_i64];omega
        have h01:0≤(k:Int) - 1:=by omega
        have h02:((k:Int) - 1).toNat=k - 1:=by omega
        have h03:(k:Int) - 1<(n:Int):=by omega
        have Hin:=hid hin;clear hin;go_wp2_with fail;refine(hC.out _).mono ?_;rintro e w1 ⟨rfl,hb1⟩;have Hbb:=hid ((Below.refl _ _).alloc (Nat.le_refl _) (.cells #[.int .u64 s.1,.int .u64 s.2] 89) |>.trans (hb1.mono (by simp)));have hz1:=hb1.size;have hq1:=(Hbb.out.cell (p:=⟨bb,oo+(k - 1)*2,none⟩) (zh hp1)).trans hp1;have hq2:=(Hbb.out.cell (p:=⟨bb,oo+(k - 1)*2+1,none⟩) (zh hp2)).trans hp2;have hq3:=hb1.cell (p:=⟨wr.heap.size,0,none⟩) (by simp);have hq4:=hb1.cell (p:=⟨wr.heap.size,1,none⟩) (by simp);simp only[World.cell?_alloc_mark] at hq3 hq4;simp at hq3 hq4;have Hb1:=hid (Hb.out.trans (Hbb.out.mono Hb.out.size));clear hb1;simp only[yt];clear hp1 hp2 hc1 hc2;go_wp2_with fail;refine za1 (by kernel_rfl) (by kernel_rfl) ?_
        repeat (go_big_quiet_step ((intro hw;first
         | rfl
         | (go_at_call 169;exact zcn hw (hR.out _))
         | (have q1:=(hw.cell (p:=⟨bb,oo+(k - 1)*2,none⟩) (zh hq1)).trans hq1
            have q2:=(hw.cell (p:=⟨bb,oo+(k - 1)*2+1,none⟩) (zh hq2)).trans hq2;have q3:=(hw.cell (p:=⟨wr.heap.size,0,none⟩) (zh hq3)).trans hq3;have q4:=(hw.cell (p:=⟨wr.heap.size,1,none⟩) (zh hq4)).trans hq4;go_simp;first | rfl | exact⟨rfl,hw⟩ | (trace_state;fail)))))
        refine wpQuiet_nil ?_;intro w3 hb3;have Hb3:=hid (Hb1.out.trans (hb3.mono Hb1.out.size));clear hb3;clear hq1 hq2 hq3 hq4 h01 h02 h03 hsub hg hz1;have Hkn:=hid hkn;by_cases hr0:yo p s=0
        · have Hr:=hid (show zcs l k=none from by rw[Hin.out,if_neg (by intro h;exact h.2 hr0)]);rw[hr0];clear hr0;go_wp2;go_roundw
          case rel=>exact⟨k+1,by omega,by go_num,Hb3.out,fun j hj=>by
           rcases Nat.lt_or_ge j k with h | h
           · exact ht.out j h
           · rw[show j=k from(by omega)];exact Hr.out⟩
          case measure=>simp[intOf];omega
        · have Hr:=hid (show ck l=some (3,k) from zcq (by rw[Hl.out];exact hkn) ht.out (by rw[Hin.out,if_pos ⟨hk0,hr0⟩]));have hne:(((yo p s:Nat):Int) != 0)=true:=by rw[bne_iff_ne];omega
          generalize yo p s=r at*;clear hr0;go_wp2_with fail;refine(zby 3 k _).mono ?_;rintro e w3 ⟨rfl,rfl⟩;go_wp2_with fail;go_ret;exact⟨by rw[Hr.out];rfl,Hb3.out⟩
      · obtain rfl:k=0:=by omega
        have Hr:=hid (show zcs l 0=none from by rw[hin,if_neg (by omega)]);clear hin hk0;simp only[Nat.zero_mul,Nat.add_zero] at hc1 hc2;rw[show ((0:Nat):Int)=0 from rfl];go_wp2_with fail;refine(hC.out _).mono ?_;rintro e w1 ⟨rfl,hb1⟩;have Hb1:=hid ((Hb.out.alloc Hb.out.size _).trans (hb1.mono (Below.size (Hb.out.alloc Hb.out.size _))));clear hb1;simp only[yt];go_wp2_with fail;refine za1 (by kernel_rfl) (by kernel_rfl) ?_;repeat (go_big_quiet_step ((intro hw;first | rfl | (trace_state;fail))))
        refine wpQuiet_nil ?_;intro w3 hb3;have Hb3:=hid (Hb1.out.trans (hb3.mono Hb1.out.size));clear hb3;go_wp2;go_roundw
        case rel=>exact⟨1,by omega,by go_num,Hb3.out,fun j hj=>by rw[show j=0 from(by omega)];exact Hr.out⟩
        case measure=>simp[intOf];omega
  · obtain rfl:k=n:=by omega
    go_wp2;go_ret;exact⟨by rw[show ck l=none from zcr (by rw[Hl.out];exact ht.out)];rfl,Hb.out⟩
end
section
theorem zgz:∀{l:List Iv},(∀i,i<l.length→(za l i).1≤(za l i).2∧(0<i→(za l (i - 1)).2+1<(za l i).1))→Good l
 | [],_=>trivial
 | [s],h=>(h 0 (by simp)).1
 | s :: t :: l,h=>by
   have h0:=(h 0 (by simp)).1;have h1:=(h 1 (by simp)).2 (by omega);refine⟨h0,h1,zgz fun i hi=>?_⟩;have:=h (i+1) (by simpa using hi);refine⟨this.1,fun hi0=>?_⟩;obtain⟨j,rfl⟩:∃j,i=j+1:=⟨i - 1,by omega⟩;exact this.2 (by omega)
theorem zbj:∀{l:List Iv},Good l→∀i,i<l.length→(za l i).1≤(za l i).2∧(0<i→(za l (i - 1)).2+1<(za l i).1)
 | [],_,i,hi=>by simp at hi
 | [s],h,i,hi=>by
   obtain rfl:i=0:=by simpa using hi
   exact⟨h,by omega⟩
 | s :: t :: l,h,i,hi=>by
   obtain⟨h1,h2,h3⟩:=h
   cases i with
   | zero=>exact⟨h1,by omega⟩
   | succ i=>
    have:=zbj h3 i (by simpa using hi);refine⟨this.1,fun _=>?_⟩
    cases i with
    | zero=>exact h2
    | succ i=>exact this.2 (by omega)
theorem zm9 {a b:Iv} (ha:a.1≤a.2) (hb:b.1≤b.2):yo a b=0↔a.2+1<b.1:=by
 rw[zvc ha hb];unfold zjf;repeat' split
 all_goals omega
theorem zg0 {l:List Iv}:ck l=none↔Good l:=by
 constructor
 · intro h;have h':=zdx h
   have ok:∀i,i<l.length→(za l i).1≤(za l i).2:=by
    intro i hi;have:=h' i hi;unfold zcs at this;split at this
    · cases this
    · omega
   refine zgz fun i hi=>⟨ok i hi,fun h0=>?_⟩
   have:=h' i hi;unfold zcs at this;rw[if_neg (by have:=ok i hi;omega)] at this;split at this
   · cases this
   · rename_i h1
     have e:yo (za l (i - 1)) (za l i)=0:=by
      refine Classical.byContradiction fun h2=>h1 ⟨h0,h2⟩
     exact(zm9 (ok (i - 1) (by omega)) (ok i hi)).1 e
 · intro h;have h':=zbj h;refine zcr fun i hi=>?_
   unfold zcs;rw[if_neg (by have:=(h' i hi).1;omega),if_neg];rintro⟨h1,h2⟩;exact h2 ((zm9 (h' (i - 1) (by omega)).1 (h' i hi).1).2 ((h' i hi).2 h1))
abbrev Ent:=Nat×Nat×List Iv
abbrev Vec:=List Ent
abbrev Frg:=List Iv×Vec
abbrev Kno:=List Frg
abbrev zk (l:List Iv):Prop:=∀t∈l,t.1<18446744073709551616∧t.2<18446744073709551616
def kh:List Nat→Nat→List Nat
 | [],x=>[x]
 | a :: l,x=>if x<a then x :: a :: l else if x=a then a :: l else a :: kh l x
theorem zg1:∀{l:List Nat} {x y:Nat},y∈kh l x↔y∈l∨y=x
 | [],x,y=>by simp[kh]
 | a :: l,x,y=>by
   rw[kh];split
   · simp only[List.mem_cons];constructor
     · rintro(h | h | h)
       · exact .inr h
       · exact .inl (.inl h)
       · exact .inl (.inr h)
     · rintro((h | h) | h)
       · exact .inr (.inl h)
       · exact .inr (.inr h)
       · exact .inl h
   · split
     · rename_i h;subst h;simp only[List.mem_cons];constructor
       · exact .inl
       · rintro(h | h)
         · exact h
         · exact .inl h
     · simp only[List.mem_cons,zg1 (l:=l)];constructor
       · rintro(h | h | h)
         · exact .inl (.inl h)
         · exact .inl (.inr h)
         · exact .inr h
       · rintro((h | h) | h)
         · exact .inl h
         · exact .inr (.inl h)
         · exact .inr (.inr h)
theorem zji:∀{l:List Nat} {x:Nat},Asc l→Asc (kh l x)
 | [],x,_=>trivial
 | a :: l,x,h=>by
   rw[kh];split
   · rename_i hx
     exact zdo (fun y hy=>by
      rcases List.mem_cons.1 hy with rfl | hy
      · exact hx
      · have:=h.lower y hy;omega) h
   · split
     · exact h
     · refine zdo (fun y hy=>?_) (zji h.tail);rcases zg1.1 hy with hy | rfl
       · exact h.lower y hy
       · omega
def zc5 (l:List Nat):List Nat:=l.foldl kh []
theorem zjj:∀{l acc:List Nat},Asc acc→Asc (l.foldl kh acc)∧∀y,y∈l.foldl kh acc↔y∈acc∨y∈l
 | [],acc,h=>⟨h,fun y=>by simp⟩
 | x :: l,acc,h=>by
   obtain⟨h1,h2⟩:=zjj (l:=l) (zji (x:=x) h);refine⟨h1,fun y=>?_⟩;rw[List.foldl_cons,h2,zg1,List.mem_cons,or_assoc]
theorem zes (l:List Nat):Asc (zc5 l):=(zjj (acc:=[]) trivial).1
theorem zc6 (l:List Nat) (y:Nat):y∈zc5 l↔y∈l:=by
 have:=(zjj (l:=l) (acc:=[]) trivial).2 y;unfold zc5;simpa using this
def opL (g:Bool→Bool→Bool) (a b:List Iv):List Iv:=jx (qj (fun x=>g (mem a x) (mem b x)) (zc5 (ve [a,b]))) []
theorem zg2 (a b:List Iv) (y:Nat):y∈ve [a,b]↔y=0∨y∈y7 a∨y∈y7 b:=by simp[ve]
theorem zbk {g:Bool→Bool→Bool} {a b:List Iv} (ha:zk a) (hb:zk b) (h0:g false false=false):
 Good (opL g a b)∧(∀x,mem (opL g a b) x=g (mem a x) (mem b x))∧zk (opL g a b):=by
 have hS:=zc6 (ve [a,b])
 have hl:∀x∈zc5 (ve [a,b]),x<18446744073709551616:=fun x hx=>by
  rcases(zg2 a b x).1 ((hS x).1 hx) with rfl | h | h
  · omega
  · exact zfl ha x h
  · exact zfl hb x h
 obtain⟨h1,h2⟩:=zu4 (f:=fun x=>g (mem a x) (mem b x)) (zes (ve [a,b])) hl ((hS 0).2 (by simp[ve])) (fun c x hcx hx h=>by
  have e1:mem a x=mem a c:=zdr ha hcx hx fun y hy=>h y ((hS y).2 ((zg2 a b y).2 (.inr (.inl hy))))
  have e2:mem b x=mem b c:=zdr hb hcx hx fun y hy=>h y ((hS y).2 ((zg2 a b y).2 (.inr (.inr hy))))
  simp only[e1,e2]) (fun x hx=>by simp only[zfk ha hx,zfk hb hx,h0])
 refine⟨h1,h2,zjd (fun p hp=>?_) (by simp)⟩;obtain⟨i,hi,rfl⟩:=List.getElem_of_mem hp;rw[zbx] at hi;have e:=zeo (fun x=>g (mem a x) (mem b x)) hi;rw[List.getElem?_eq_getElem (by rw[zbx];exact hi)] at e;have e':=Option.some.inj e;rw[e'];have hn:=hl _ (zbb hi);split
 · rename_i h2;have:=hl _ (zbb h2);exact⟨hn,by simp only;omega⟩
 · exact⟨hn,by simp only;omega⟩
theorem zv8 {g:Bool→Bool→Bool} {a b L:List Iv} (ha:zk a) (hb:zk b) (h0:g false false=false) (hG:Good L) (hm:∀x,mem L x=g (mem a x) (mem b x)):L=opL g a b:=
 zgk hG (zbk ha hb h0).1 fun x=>by rw[hm,(zbk ha hb h0).2.1]
def gOr (a b:Bool):Bool:=a || b
def js (a b:Bool):Bool:=a && !b
def jo (e:Ent):List Iv:=opL js [(0,e.2.1)] e.2.2
def v7 (L:List Iv):Nat:=match L.getLast? with | some t=>t.2 | none=>0
def ofE (r:Nat) (L:List Iv):Option Ent:=if L=[] then none else some (r,v7 L,opL js [(0,v7 L)] L)
structure LtE (e:Ent):Prop where
 rep:e.1<18446744073709551616
 max:e.2.1<18446744073709551616
 holes:zk e.2.2
theorem zet {a b:Nat} (ha:a<18446744073709551616) (hb:b<18446744073709551616):zk [(a,b)]:=by
 intro t ht;simp at ht;subst ht;exact⟨ha,hb⟩
theorem zc7 {e:Ent} (h:LtE e):Good (jo e)∧(∀c,mem (jo e) c=(decide (c≤e.2.1) && !mem e.2.2 c))∧zk (jo e):=by
 obtain⟨h1,h2,h3⟩:=zbk (g:=js) (zet (a:=0) (by omega) h.max) h.holes rfl;refine⟨h1,fun c=>?_,h3⟩;unfold jo;rw[h2];simp[js,mem]
theorem zv9 {L:List Iv} (h:Good L) (hne:L≠[]):mem L (v7 L)=true∧∀c,mem L c=true→c≤v7 L:=by
 rcases zca L with rfl | ⟨l,t,rfl⟩
 · exact absurd rfl hne
 · obtain⟨h1,h2,h3⟩:=zgl h;have e:v7 (l++[t])=t.2:=by simp[v7]
   rw[e];refine⟨mem_iff.2 ⟨t,by simp,h2,Nat.le_refl _⟩,fun c hc=>?_⟩;obtain⟨s,hs,k1,k2⟩:=mem_iff.1 hc;rcases List.mem_append.1 hs with hs | hs
   · have:=h3 s hs;omega
   · simp at hs;subst hs;exact k2
structure CanE (e:Ent):Prop where
 good:Good e.2.2
 below:∀s∈e.2.2,s.2≤e.2.1
 top:mem e.2.2 e.2.1=false
theorem zna {L:List Iv} (hl:zk L):v7 L<18446744073709551616:=by
 rcases zca L with rfl | ⟨l,t,rfl⟩
 · simp[v7]
 · have e:v7 (l++[t])=t.2:=by simp[v7]
   rw[e];exact(hl t (by simp)).2
theorem zjk {L:List Iv} (h:Good L) {s:Iv} (hs:s∈L):mem L s.2=true∧s.1≤s.2:=by
 obtain⟨i,hi,rfl⟩:=List.getElem_of_mem hs;have:=zbj h i hi;rw[yw hi] at this;exact⟨mem_iff.2 ⟨_,List.getElem_mem hi,this.1,Nat.le_refl _⟩,this.1⟩
theorem zwa {r:Nat} {L:List Iv} (hG:Good L) (hl:zk L) (hne:L≠[]):∃e,ofE r L=some e∧e.1=r∧CanE e∧zk e.2.2∧e.2.1<18446744073709551616∧∀c,(decide (c≤e.2.1) && !mem e.2.2 c)=mem L c:=by
 have ht:=zna hl;obtain⟨h1,h2,h3⟩:=zbk (g:=js) (zet (a:=0) (by omega) ht) hl rfl;obtain⟨t1,t2⟩:=zv9 hG hne;refine⟨(r,v7 L,opL js [(0,v7 L)] L),by unfold ofE;rw[if_neg hne],rfl,⟨h1,fun s hs=>?_,?_⟩,h3,ht,fun c=>?_⟩
 · have:=(zjk h1 hs).1;rw[h2] at this;simp[js,mem] at this;exact this.1
 · show mem (opL js [(0,v7 L)] L) (v7 L)=false;rw[h2,t1];simp[js]
 · show (decide (c≤v7 L) && !mem (opL js [(0,v7 L)] L) c)=mem L c;rw[h2];have em:mem [(0,v7 L)] c=decide (c≤v7 L):=by simp[mem]
   rw[em];by_cases hc:mem L c=true
   · have hle:decide (c≤v7 L)=true:=decide_eq_true (t2 c hc);rw[hc,hle];rfl
   · have hc':mem L c=false:=by simpa using hc
     rw[hc'];cases decide (c≤v7 L) <;> rfl
theorem znb {e e':Ent} (h:CanE e) (h':CanE e') (hr:e.1=e'.1) (hk:∀c,(decide (c≤e.2.1) && !mem e.2.2 c)=(decide (c≤e'.2.1) && !mem e'.2.2 c)):e=e':=by
 have k1:=hk e.2.1;rw[h.top] at k1;simp at k1;have k2:=hk e'.2.1;rw[h'.top] at k2;simp at k2;have hm:e.2.1=e'.2.1:=by omega
 have hh:e.2.2=e'.2.2:=zgk h.good h'.good fun x=>by
  by_cases hx:x≤e.2.1
  · have:=hk x;rw[←hm] at this;simp[hx] at this;cases hA:mem e.2.2 x <;> cases hB:mem e'.2.2 x <;> simp_all
  · have n1:mem e.2.2 x=false:=by
     rw[zdl];intro s hs hsx;have:=h.below s hs;omega
    have n2:mem e'.2.2 x=false:=by
     rw[zdl];intro s hs hsx;have:=h'.below s hs;omega
    rw[n1,n2]
 obtain⟨r,m,hs⟩:=e;obtain⟨r',m',hs'⟩:=e';simp only at hr hm hh;rw[hr,hm,hh]
end
section
open Go.RowKit
def ku (s:Iv) (x:Nat):Int:=if s.2<x then -1 else if x<s.1 then 1 else 0
theorem znc (s:Iv) (x:Nat) (w:World):
 Calls Tryz.prog 259 #[ivV s,.int .u64 x] w fun e w'=>e=.returned (.int .i64 (ku s x))∧Below w.heap.size w w':=by
 obtain⟨a,b⟩:=s;have hb:=(Below.refl w.heap.size w).alloc (Nat.le_refl _) (.cells #[.int .u64 a,.int .u64 b] 89);by_cases h1:b<x
 · have Hr:=hid (show ku (a,b) x= -1 from by simp[ku,h1]);generalize ku (a,b) x=r at*;go_enter Tryz.func259,Tryz.ntmps259;go_wp2;go_ret;exact⟨zbc Hr.out.symm,hb⟩
 · by_cases h2:x<a
   · have Hr:=hid (show ku (a,b) x=1 from by simp[ku,h1,h2]);generalize ku (a,b) x=r at*;go_enter Tryz.func259,Tryz.ntmps259;go_wp2;go_ret;exact⟨zbc Hr.out.symm,hb⟩
   · have Hr:=hid (show ku (a,b) x=0 from by simp[ku,h1,h2]);generalize ku (a,b) x=r at*;go_enter Tryz.func259,Tryz.ntmps259;go_wp2;go_ret;exact⟨zbc Hr.out.symm,hb⟩
def fnd (l:List Iv) (x:Nat):Nat:=(l.takeWhile fun s=>decide (s.2<x)).length
theorem znd:∀{l:List Iv} {x i:Nat},i≤l.length→(∀t,t<i→(za l t).2<x)→(∀t,i≤t→t<l.length→¬(za l t).2<x)→fnd l x=i
 | [],x,i,hi,_,_=>by simp at hi;subst hi;rfl
 | s :: l,x,i,hi,h1,h2=>by
   cases i with
   | zero=>
    have:=h2 0 (by omega) (by simp);have e:¬s.2<x:=this
    simp[fnd,e]
   | succ i=>
    have e:s.2<x:=h1 0 (by omega);have:=znd (l:=l) (x:=x) (i:=i) (by simpa using hi) (fun t ht=>h1 (t+1) (by omega)) (fun t ht htl=>h2 (t+1) (by omega) (by simpa using htl));unfold fnd at this ⊢;rw[List.takeWhile_cons,if_pos (by simpa using e)];simpa using this
theorem zeu {l:List Iv} (h:Good l) {i j:Nat} (hij:i<j) (hj:j<l.length):(za l i).2+1<(za l j).1:=by
 induction j with
 | zero=>omega
 | succ j ih=>
  have h1:=(zbj h (j+1) hj).2 (by omega);rw[Nat.add_sub_cancel] at h1;by_cases e:i=j
  · subst e;exact h1
  · have:=ih (by omega) (by omega);have:=(zbj h j (by omega)).1;omega
theorem zwb {l:List Iv} (h:Good l) {x i:Nat} (hi:i≤l.length) (h1:∀t,t<i→(za l t).2<x) (h2:∀t,i≤t→t<l.length→¬(za l t).2<x):
 mem l x=(decide (i<l.length) && decide ((za l i).1≤x)):=by
 rw[Bool.eq_iff_iff,mem_iff];simp only[Bool.and_eq_true,decide_eq_true_iff];constructor
 · rintro⟨s,hs,k1,k2⟩;obtain⟨t,ht,rfl⟩:=List.getElem_of_mem hs;rw[←yw ht] at k1 k2
   have:i≤t:=by
    refine Nat.le_of_not_lt fun hlt=>?_
    have:=h1 t hlt;omega
   refine⟨by omega,?_⟩;by_cases e:i=t
   · subst e;exact k1
   · have:=zeu h (i:=i) (j:=t) (by omega) ht;have:=(zbj h i (by omega)).1;omega
 · rintro⟨k1,k2⟩;exact⟨za l i,zas k1,k2,by have:=h2 i (Nat.le_refl _) k1;omega⟩
set_option maxRecDepth 20000 in
theorem zwc (a:Option Addr) (n cap x:Nat) (l:List Iv) (w:World) (hI:Ivs w a n cap l) (hG:Good l) (hn:n≤1000000):
 Calls Tryz.prog 258 #[.slice a n cap,.int .u64 x,.func (.func 259) #[] #[]] w fun e w'=>
  e=.returned (.tuple #[.int .i64 ((fnd l x:Nat):Int),.bool (mem l x)])∧Below w.heap.size w w':=by
 have HI:=hid hI;have HG:=hid hG;have Hl:=hid hI.len;clear hI hG;go_enter Tryz.func258,Tryz.ntmps258;go_wp2;go_loopw [9,10,11] (fun i j _ wr=>∃p q:Nat,p≤q∧q≤n∧i=.int .i64 p∧j=.int .i64 q∧Below w.heap.size w wr∧Hid ((∀t,t<p→(za l t).2<x)∧∀t,q≤t→t<n→¬(za l t).2<x)) (fun i j _ _=>(intOf j).toNat - (intOf i).toNat)
 case atStart=>exact⟨0,n,by omega,by omega,rfl,rfl,Below.refl _ _,fun t ht=>by omega,fun t h1 h2=>by omega⟩
 case round=>
  obtain⟨p,q,hpq,hqn,rfl,rfl,hb,ht⟩:=hrel;have Hb:=hid hb;clear hb;by_cases hlt:p<q
  · obtain⟨bb,oo,rfl,hcell⟩:=(HI.out.below Hb.out).cells (by omega);obtain⟨h,hh,hph,hhq⟩:∃h:Nat,((p:Int)+(q:Int)) / 2=(h:Int)∧p≤h∧h<q:=⟨(p+q) / 2,by omega,by omega,by omega⟩;have hhn:h<n:=by omega
    obtain⟨hc1,hc2⟩:=hcell h hhn;clear hcell;have hC:=hid (fun w=>znc (za l h) x w);have Hms:=hid (fun t (ht:t<h)=>zeu HG.out ht (by rw[Hl.out];exact hhn));have Hms2:=hid (fun t (ht:h<t) (htl:t<n)=>zeu HG.out ht (by rw[Hl.out];exact htl));have Hok:=hid (fun t (ht:t<n)=>(zbj HG.out t (by rw[Hl.out];exact ht)).1);by_cases hlx:(za l h).2<x
    · have Hlx:=hid hlx;rw[show ku (za l h) x= -1 from by simp[ku,hlx]] at hC;clear hlx
      have Hr:=hid (show ∀t,t<h+1→(za l t).2<x from by
       intro t htt;by_cases e:t=h
       · subst e;exact Hlx.out
       · have h1:=Hms.out t (by omega);have h2:=Hok.out h hhn;have h3:=Hlx.out;omega)
      generalize za l h=s at*;go_wp2_with fail;refine(hC.out _).mono ?_;rintro e w1 ⟨rfl,hb1⟩;have Hb1:=hid (Hb.out.trans (hb1.mono Hb.out.size));clear hb1;clear hc1 hc2 hh;go_wp2_with fail;go_roundw
      case rel=>exact⟨h+1,q,by omega,by omega,by go_num,rfl,Hb1.out,Hr.out,ht.out.2⟩
      case measure=>simp[intOf];omega
    · have Hr:=hid (show ∀t,h≤t→t<n→¬(za l t).2<x from by
       intro t htt htn;by_cases e:t=h
       · subst e;exact hlx
       · have h1:=Hms2.out t (by omega) htn;have h2:=Hok.out t htn;omega)
      have hcv:0≤ku (za l h) x:=by unfold ku;rw[if_neg hlx];split <;> omega
      generalize ku (za l h) x=cv at*;generalize za l h=s at*;clear hlx;go_wp2_with fail;refine(hC.out _).mono ?_;rintro e w1 ⟨rfl,hb1⟩;have Hb1:=hid (Hb.out.trans (hb1.mono Hb.out.size));clear hb1;clear hc1 hc2 hh;go_wp2_with fail;go_roundw
      case rel=>exact⟨p,h,by omega,by omega,rfl,rfl,Hb1.out,ht.out.1,Hr.out⟩
      case measure=>simp[intOf];omega
  · obtain rfl:p=q:=by omega
    have Hf:=hid (znd (l:=l) (x:=x) (i:=p) (by rw[Hl.out];exact hqn) ht.out.1 (fun t h1 h2=>ht.out.2 t h1 (by rw[←Hl.out];exact h2)));have Hm:=hid (zwb HG.out (x:=x) (i:=p) (by rw[Hl.out];exact hqn) ht.out.1 (fun t h1 h2=>ht.out.2 t h1 (by rw[←Hl.out];exact h2)));rw[Hl.out] at Hm;by_cases hpn:p<n
    · obtain⟨bb,oo,rfl,hcell⟩:=(HI.out.below Hb.out).cells (by omega);obtain⟨hc1,hc2⟩:=hcell p hpn;clear hcell;have hC:=hid (fun w=>znc (za l p) x w);have hnl:=ht.out.2 p (Nat.le_refl _) hpn;rw[decide_eq_true hpn,Bool.true_and] at Hm;by_cases hxs:(za l p).1≤x
      · rw[decide_eq_true hxs] at Hm;rw[show ku (za l p) x=0 from by unfold ku;rw[if_neg hnl,if_neg (by omega)]] at hC;generalize za l p=s at*;clear hnl hxs;go_wp2_with fail;refine(hC.out _).mono ?_;rintro e w1 ⟨rfl,hb1⟩;have Hb1:=hid (Hb.out.trans (hb1.mono Hb.out.size));clear hb1;clear hc1 hc2;go_wp2_with fail;go_ret2;exact⟨by rw[Hf.out,Hm.out];rfl,Hb1.out⟩
      · rw[decide_eq_false hxs] at Hm;rw[show ku (za l p) x=1 from by unfold ku;rw[if_neg hnl,if_pos (by omega)]] at hC;generalize za l p=s at*;clear hnl hxs;go_wp2_with fail;refine(hC.out _).mono ?_;rintro e w1 ⟨rfl,hb1⟩;have Hb1:=hid (Hb.out.trans (hb1.mono Hb.out.size));clear hb1;clear hc1 hc2;go_wp2_with fail;go_ret2;exact⟨by rw[Hf.out,Hm.out];rfl,Hb1.out⟩
    · obtain rfl:p=n:=by omega
      rw[decide_eq_false hpn,Bool.false_and] at Hm;have hd:decide ((p:Int)<(p:Int))=false:=by simp
      go_wp2_with fail;go_ret2;exact⟨by rw[Hf.out,Hm.out];rfl,Hb.out⟩
def zev (l:List Iv) (x:Nat):Int:=if mem l x=true then ((fnd l x:Nat):Int) else -1
theorem zwd (a:Option Addr) (n cap x:Nat) (l:List Iv) (w:World) (hI:Ivs w a n cap l) (hG:Good l) (hn:n≤1000000):
 Calls Tryz.prog 225 #[.slice a n cap,.int .u64 x] w fun e w'=>e=.returned (.int .i64 (zev l x))∧Below w.heap.size w w':=by
 have hC:=hid (zwc a n cap x l w hI hG hn);clear hI hG;unfold zev
 cases hm:mem l x with
 | true=>
  rw[hm] at hC;rw[if_pos rfl];clear hm;generalize fnd l x=f at*;go_enter Tryz.func225,Tryz.ntmps225;go_wp2_with fail;refine hC.out.mono ?_;rintro e w1 ⟨rfl,hb1⟩;go_wp2;go_ret
  exact⟨rfl,hb1⟩
 | false=>
  rw[hm] at hC;rw[if_neg (by simp)];clear hm;generalize fnd l x=f at*;go_enter Tryz.func225,Tryz.ntmps225;go_wp2_with fail;refine hC.out.mono ?_;rintro e w1 ⟨rfl,hb1⟩;go_wp2;go_ret;exact⟨rfl,hb1⟩
theorem zne (a:Option Addr) (n cap x:Nat) (l:List Iv) (w:World) (hI:Ivs w a n cap l) (hG:Good l) (hn:n≤1000000):
 Calls Tryz.prog 181 #[.slice a n cap,.int .u64 x] w fun e w'=>e=.returned (.bool (mem l x))∧Below w.heap.size w w':=by
 have hC:=hid (zwd a n cap x l w hI hG hn);clear hI hG
 cases h:mem l x with
 | true=>
  have hd:zev l x=((fnd l x:Nat):Int):=by unfold zev;rw[if_pos h]
  rw[hd] at hC;clear h hd;generalize fnd l x=f at*;have hd:decide (0≤(f:Int))=true:=by rw[decide_eq_true_iff];omega
  go_enter Tryz.func181,Tryz.ntmps181;go_wp2_with fail;refine hC.out.mono ?_;rintro e w1 ⟨rfl,hb1⟩;go_wp2;go_ret
  exact⟨zdq (by simp),hb1⟩
 | false=>
  have hd:zev l x= -1:=by unfold zev;rw[if_neg (by rw[h];simp)]
  rw[hd] at hC;clear h hd;go_enter Tryz.func181,Tryz.ntmps181;go_wp2_with fail;refine hC.out.mono ?_;rintro e w1 ⟨rfl,hb1⟩;go_wp2;go_ret;exact⟨zdq (by simp),hb1⟩
