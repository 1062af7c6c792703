/- Part 16. -/
import Derived.Test.YtdnipikdddfhfaaGreatDoorOp15
set_option linter.unusedVariables false
set_option maxHeartbeats 16000000
namespace Go.Proofs.YtdnipikdddfhfaaGreatDoor
open Lib (hid)
section
structure VsInv (le lh:Int) (vs:List Vec):Prop where
 all:∀v∈vs,CanV v∧LtV v∧v≠[]∧okV le lh v
 asc:vs.Pairwise fun u v=>jm u v= -1
theorem zud {vs:List Vec} {v:Vec} (ha:vs.Pairwise fun u v=>jm u v= -1) (h:¬ja vs v=true):∀u∈vs,jm u v= -1:=by
 intro u hu;unfold ja at h;rw[List.getLast?_eq_getElem?] at h;have h0:0<vs.length:=List.length_pos_iff.2 (List.ne_nil_of_mem hu);rw[List.getElem?_eq_getElem (by omega)] at h;simp only[decide_eq_true_eq] at h
 have hl:jm (vs[vs.length - 1]'(by omega)) v= -1:=by
  rcases zgo (vs[vs.length - 1]'(by omega)) v with h1 | h1 | h1
  · exact h1
  · rw[h1] at h;exact absurd (Int.le_refl _) h
  · rw[h1] at h;exact absurd (by decide) h
 obtain⟨i,hi,rfl⟩:=List.getElem_of_mem hu;rcases Nat.lt_or_ge i (vs.length - 1) with h1 | h1
 · exact zpn (List.pairwise_iff_getElem.1 ha i (vs.length - 1) hi (by omega) h1) hl
 · have e:i=vs.length - 1:=by omega
   subst e;exact hl
theorem zma {T:zl} {E:Nat} {le lh:Int} (hT:T64 T):∀(n:Nat) (acc:List Vec) {p q:Nat} {vs:List Vec},y8 T E le lh n acc p=.ok (vs,q)→VsInv le lh acc→
 ∀{P0:Nat},yu T P0 (acc.flatMap zar) p→yu T P0 (vs.flatMap zar) q∧VsInv le lh vs∧vs.length=acc.length+n
 | 0,acc,p,q,vs,h,hI,P0,hr=>by cases h;exact⟨hr,hI,rfl⟩
 | n+1,acc,p,q,vs,h,hI,P0,hr=>by
   rw[y8] at h;obtain⟨v,r,h1,h2⟩:=qs h;obtain⟨a1,a2,a3,a4,a5⟩:=zt7 hT h1;split at h2
   · cases h2
   · rename_i ho
     obtain⟨b1,b2,b3⟩:=zma hT n (acc++[v]) h2 ⟨fun x hx=>by
      rcases List.mem_append.1 hx with hx | hx
      · exact hI.all x hx
      · simp at hx;subst hx;exact⟨a2,a3,a4,a5⟩,List.pairwise_append.2 ⟨hI.asc,List.pairwise_singleton _ _,fun x hx y hy=>by
      simp at hy;subst hy;exact zud hI.asc ho x hx⟩⟩ (P0:=P0) (by
      rw[List.flatMap_append];exact jt.2 ⟨p,hr,by simpa using a1⟩)
     refine⟨b1,b2,?_⟩;rw[b3,List.length_append,List.length_cons,List.length_nil];omega
def za6 (l:List Iv) (x:List Nat):Nat→List Nat
 | 0=>[]
 | d+1=>za6 l x d++[jo l 0 d,(zc l d).2 - (zc l d).1,nth x d]
theorem zmb (l:List Iv) (x:List Nat):∀d,ki l x d=l.length :: za6 l x d
 | 0=>rfl
 | d+1=>by rw[ki,za6,zmb l x d];rfl
theorem zeh {l t:List Nat} {i:Nat} (h:i<l.length):nth (l++t) i=nth l i:=by simp[nth,List.getElem?_append_left h]
theorem zhu (l:List Nat) (x:Nat):nth (l++[x]) l.length=x:=by simp[nth]
theorem zmc (l t:List Iv) (x y:List Nat) (hl:l.length=x.length):∀d,d≤l.length→za6 (l++t) (x++y) d=za6 l x d
 | 0,_=>rfl
 | d+1,h=>by
   rw[za6,za6,zmc l t x y hl d (by omega),kt h,zeh (by omega)]
   have:jo (l++t) 0 d=jo l 0 d:=by
    unfold jo;rw[kt (by omega),kt (i:=d) h,kt (by omega)]
   rw[this]
structure SInv (N:Nat) (l:List Iv) (ix:List Nat):Prop where
 diff:zae l 0
 lt:yj l
 len:l.length=ix.length
 idx:∀i,i<l.length→nth ix i<N
 apart:∀i,0<i→i<l.length→(zc l i).1=(zc l (i - 1)).2+1→nth ix i≠nth ix (i - 1)
theorem zmd {T:zl} {N:Nat} (hT:T64 T):∀(m:Nat) (l:List Iv) (ix:List Nat) {p q:Nat} {l':List Iv} {ix':List Nat},yz T N m l ix p=.ok ((l',ix'),q)→SInv N l ix→
 ∀{P0:Nat},yu T P0 (za6 l ix l.length) p→yu T P0 (za6 l' ix' l'.length) q∧SInv N l' ix'∧l'.length=l.length+m
 | 0,l,ix,p,q,l',ix',h,hI,P0,hr=>by cases h;exact⟨hr,hI,rfl⟩
 | m+1,l,ix,p,q,l',ix',h,hI,P0,hr=>by
   rw[yz] at h;obtain⟨⟨s,w⟩,r,h1,h2⟩:=qs h;obtain⟨d1,d2,d3⟩:=zl5 hT hI.diff hI.lt h1;unfold k7 at h2;obtain⟨x,r2,h3,h4⟩:=qs h2;have t3:=zbz h3;split at h4
   · cases h4
   · rename_i hN;split at h4
     · cases h4
     · rename_i ht;simp only at ht h4
       obtain⟨b1,b2,b3⟩:=zmd hT m (l++[s]) (ix++[x]) h4 ⟨d1,d2,by simp[hI.len],fun i hi=>by
        rw[List.length_append,List.length_cons,List.length_nil] at hi;rcases Nat.lt_or_ge i l.length with h5 | h5
        · rw[zeh (by rw[←hI.len];exact h5)];exact hI.idx i h5
        · rw[show i=ix.length by have:=hI.len;omega,zhu];omega,fun i h0 hi he=>by
        rw[List.length_append,List.length_cons,List.length_nil] at hi;rcases Nat.lt_or_ge i l.length with h5 | h5
        · rw[kt h5,kt (by omega)] at he;rw[zeh (by rw[←hI.len];exact h5),zeh (by rw[←hI.len];omega)];exact hI.apart i h0 h5 he
        · have e:i=l.length:=by omega
          subst e;rw[zef,kt (by omega)] at he;rw[hI.len,zhu,zeh (by rw[←hI.len];omega)];intro e2;refine ht ⟨?_,?_⟩
          · unfold vx;rw[zl4,if_neg (by omega)];simp only[decide_eq_true_eq];exact he
          · rw[List.getLast?_eq_getElem?,List.getElem?_eq_getElem (by rw[←hI.len];omega),e2];simp[nth,List.getElem?_eq_getElem (show ix.length - 1<ix.length by rw[←hI.len];omega)]⟩ (P0:=P0) (by
        rw[List.length_append,List.length_cons,List.length_nil,Nat.zero_add,za6,zmc l [s] ix [x] hI.len l.length (Nat.le_refl _),zef];rw[show nth (ix++[x]) l.length=x by rw[hI.len,zhu]];exact jt.2 ⟨p,hr,jt (a:=[jo (l++[s]) 0 l.length,s.2 - s.1]) (b:=[x]).2 ⟨r,d3,r2,t3,rfl⟩⟩)
       refine⟨b1,b2,?_⟩;rw[b3,List.length_append,List.length_cons,List.length_nil];omega
theorem zme (L:List Seg) (i:Nat):∀d,d≤L.length→itB (yg L) ((yq L).map fun (n:Nat)=>(n:Int)) i d=((L.take d).filter fun p=>decide (p.2=i)).map (·.1)
 | 0,_=>by simp[itB]
 | d+1,h=>by
   have e1:zc (yg L) d=L[d].1:=by rw[qg (by rw[jx];exact h)];simp[yg]
   have e2:zas ((yq L).map fun (n:Nat)=>(n:Int)) d=(L[d].2:Int):=by rw[zfk (by simp[yq];exact h)];simp[yq]
   rw[itB,zme L i d (by omega),e1,e2,List.take_succ_eq_append_getElem h,List.filter_append,List.map_append];congr 1;by_cases e:L[d].2=i
   · rw[if_pos (by omega),List.filter_cons_of_pos (by simpa using e)];rfl
   · rw[if_neg (by omega),List.filter_cons_of_neg (by simpa using e)];rfl
abbrev zhv (p q:Seg):Prop:=p.1.2<q.1.1∧(p.2=q.2→p.1.2+1<q.1.1)
theorem zmf {N:Nat} {L:List Seg} (h:SInv N (yg L) (yq L)):L.Pairwise zhv∧∀p∈L,p.1.1≤p.1.2∧p.2<N:=by
 have at1:∀i (hi:i<L.length),zc (yg L) i=L[i].1:=fun i hi=>by rw[qg (by rw[jx];exact hi)];simp[yg]
 have at2:∀i (hi:i<L.length),nth (yq L) i=L[i].2:=fun i hi=>by simp[nth,yq,hi]
 have one:∀i (hi:i<L.length),L[i].1.1≤L[i].1.2:=fun i hi=>by
  have:=(h.diff i (by rw[jx];exact hi)).1;rwa [at1 i hi] at this
 have stp:∀i (hi:i+1<L.length),zhv L[i] L[i+1]:=fun i hi=>by
  have h1:=(h.diff (i+1) (by rw[jx];exact hi)).2 (by omega);rw[show i+1 - 1=i by omega,at1 (i+1) hi,at1 i (by omega)] at h1;refine⟨by omega,fun e=>?_⟩;rcases Nat.lt_or_ge (L[i].1.2+1) L[i+1].1.1 with h2 | h2
  · exact h2
  · have h3:=h.apart (i+1) (by omega) (by rw[jx];exact hi) (by rw[show i+1 - 1=i by omega,at1 (i+1) hi,at1 i (by omega)];omega);rw[show i+1 - 1=i by omega,at2 (i+1) hi,at2 i (by omega)] at h3;exact absurd e.symm h3
 refine⟨List.pairwise_iff_getElem.2 fun i j hi hj hij=>?_,fun p hp=>?_⟩
 · obtain⟨d,rfl⟩:∃d,j=i+1+d:=⟨j - i - 1,by omega⟩;clear hij
   induction d with
   | zero=>exact stp i hj
   | succ d ih=>
    have h1:=ih (by omega);have h2:=stp (i+1+d) hj;have h3:=one (i+1+d) (by omega);have e:L[i+1+d+1]'hj=L[i+1+(d+1)]'hj:=rfl;rw[e] at h2;exact⟨by have:=h1.1;have:=h2.1;omega,fun _=>by have:=h1.1;have:=h2.1;omega⟩
 · obtain⟨i,hi,rfl⟩:=List.getElem_of_mem hp;refine⟨one i hi,?_⟩;have:=h.idx i (by rw[jx];exact hi);rwa [at2 i hi] at this
theorem zmg:∀{l:List Iv},(l.Pairwise fun s t=>s.2+1<t.1)→(∀s∈l,s.1≤s.2)→Good l
 | [],_,_=>zgp fun i hi=>(by simp at hi)
 | s :: l,h,h2=>by
   obtain⟨a,b⟩:=List.pairwise_cons.1 h;exact zn9 (h2 s List.mem_cons_self) a (zmg b fun t ht=>h2 t (List.mem_cons_of_mem _ ht))
end
section
structure Cut (m:Nat) (T T':zl) (E E':Nat):Prop where
 tok:∀p,T' p=T p∨T' p=.error m
 le:E'=E∨(m=5∧E'≤E)
def k8 {α:Type} (m:Nat) (a b:RR α):Prop:=b=a∨∃w,b=.error (m,w)
theorem vh {m:Nat} {α β:Type} {a b:RR α} {f g:α→Nat→RR β} (h:k8 m a b) (hf:∀x q,k8 m (f x q) (g x q)):k8 m (thn a f) (thn b g):=by
 rcases h with rfl | ⟨w,rfl⟩
 · cases b with
   | error e=>exact .inl rfl
   | ok y=>exact hf y.1 y.2
 · exact .inr ⟨w,rfl⟩
theorem vj {m:Nat} {α:Type} (a:RR α):k8 m a a:=.inl rfl
variable {m:Nat} {T T':zl} {E E':Nat}
theorem zdc (h:Cut m T T' E E') (p:Nat):k8 m (nmP T p) (nmP T' p):=by
 unfold nmP;rcases h.tok p with e | e
 · rw[e];exact .inl rfl
 · rw[e];exact .inr ⟨p,rfl⟩
theorem zfw (h:Cut m T T' E E') (lim:Int) (p:Nat):k8 m (zv T E lim p) (zv T' E' lim p):=by
 unfold zv;refine vh (zdc h p) fun x q=>?_
 unfold zm;rcases h.le with rfl | ⟨rfl,hle⟩
 · exact vj _
 · by_cases h1:lim<(x:Int)∧x≠0
   · rw[if_pos h1,if_pos h1];exact vj _
   · rw[if_neg h1,if_neg h1];by_cases h2:E' - q<x
     · rw[if_pos h2];exact .inr ⟨p,rfl⟩
     · rw[if_neg h2,if_neg (show ¬E - q<x by omega)];exact vj _
theorem zue (h:Cut m T T' E E') (lo q:Nat):k8 m (hiP T lo q) (hiP T' lo q):=vh (zdc h q) fun x q=>vj _
theorem zmh (h:Cut m T T' E E') (prev:Option Nat) (a p:Nat):k8 m (ivP T prev a p) (ivP T' prev a p):=by
 unfold ivP;refine vh (zdc h p) fun x q=>?_
 cases loP prev a x with
 | none=>exact vj _
 | some lo=>exact zue h lo q
theorem zmi (h:Cut m T T' E E') (mx:Nat):∀n acc p,k8 m (y7 T mx n acc p) (y7 T' mx n acc p)
 | 0,acc,p=>vj _
 | n+1,acc,p=>by
   rw[y7,y7];refine vh (zmh h _ _ p) fun s q=>?_
   unfold ko;split
   · exact vj _
   · exact zmi h mx n _ q
theorem zmj (h:Cut m T T' E E') (lim:Int):∀n acc p,k8 m (yx T E lim n acc p) (yx T' E' lim n acc p)
 | 0,acc,p=>vj _
 | n+1,acc,p=>by
   rw[yx,yx];refine vh ?_ fun e q=>zmj h lim n _ q
   unfold qo;refine vh (zdc h p) fun x q=>?_
   cases jv acc x with
   | none=>exact vj _
   | some r=>exact vh (zdc h q) fun mx q=>vh (zfw h lim q) fun n q=>vh (zmi h mx n [] q) fun _ _=>vj _
theorem zmk (h:Cut m T T' E E') (le lh:Int):∀n acc p,k8 m (y8 T E le lh n acc p) (y8 T' E' le lh n acc p)
 | 0,acc,p=>vj _
 | n+1,acc,p=>by
   rw[y8,y8];refine vh (vh (zfw h le p) fun n q=>?_) fun v q=>?_
   · split
     · exact vj _
     · exact zmj h lh n [] q
   · split
     · exact vj _
     · exact zmk h le lh n _ q
theorem zml (h:Cut m T T' E E') (N:Nat):∀k l ix p,k8 m (yz T N k l ix p) (yz T' N k l ix p)
 | 0,l,ix,p=>vj _
 | k+1,l,ix,p=>by
   rw[yz,yz];refine vh (zmh h _ _ p) fun s q=>vh (zdc h q) fun x r=>?_
   split
   · exact vj _
   · split
     · exact vj _
     · exact zml h N k _ _ r
theorem zmm (h:Cut m T T' E E') (L:zb) (p:Nat):k8 m (thn (zv T E L.2.1 p) fun n q=>thn (y8 T E L.2.2.1 L.2.2.2.1 n [] q) fun vs q=>thn (zv T E L.2.2.2.2 q) fun m q=>thn (yz T vs.length m [] [] q) fun s q=>(.ok (zw vs s.1 s.2,q):RR Kno))
 (thn (zv T' E' L.2.1 p) fun n q=>thn (y8 T' E' L.2.2.1 L.2.2.2.1 n [] q) fun vs q=>thn (zv T' E' L.2.2.2.2 q) fun m q=>thn (yz T' vs.length m [] [] q) fun s q=>.ok (zw vs s.1 s.2,q)):=
 vh (zfw h _ p) fun n q=>vh (zmk h _ _ n [] q) fun vs q=>vh (zfw h _ q) fun m q=>vh (zml h _ m [] [] q) fun _ _=>vj _
theorem zhw (T:zl) (E:Nat) (L:zb) (p:Nat):zx T E L p=thn (thn (zv T E L.2.1 p) fun n q=>thn (y8 T E L.2.2.1 L.2.2.2.1 n [] q) fun vs q=>thn (zv T E L.2.2.2.2 q) fun m q=>thn (yz T vs.length m [] [] q) fun s q=>(.ok (zw vs s.1 s.2,q):RR Kno)) fun c q=>jp E c q:=by
 unfold zx vy;rw[jf];refine vb fun n q=>?_
 rw[jf];refine vb fun vs q=>?_
 rw[jf];refine vb fun m q=>?_
 rw[jf]
 rfl
theorem zuf (h:Cut m T T' E E) (L:zb) (p:Nat):k8 m (zx T E L p) (zx T' E L p):=by
 rw[zhw,zhw];exact vh (zmm h L p) fun c q=>vj _
theorem zug (h:Cut 5 T T' E E') (hT':∀p x q,T' p=.ok (x,q)→q≤E') (L:zb) {p z:Nat} {c:Kno} (hp:p≤E') (hd:zx T E L p=.ok (c,z)) (hz:E'<z):∃w,zx T' E' L p=.error (5,w):=by
 have key:=zmm h L p;rw[zhw] at hd ⊢;obtain⟨c',z',h1,h2⟩:=qs hd;rw[h1] at key
 have hz':z'=z:=by
  unfold jp at h2;split at h2
  · cases h2
  · split at h2
    · cases h2
    · cases h2;rfl
 subst hz';rcases key with k | ⟨w,k⟩
 · exfalso;obtain⟨n,q1,a1,a2⟩:=qs k;obtain⟨vs,q2,a3,a4⟩:=qs a2;obtain⟨m,q3,a5,a6⟩:=qs a4;obtain⟨s,q4,a7,a8⟩:=qs a6;cases a8;have hq3:=hT' _ _ _ (zee a5).1
   have seg_le:∀m l ix p l' q,yz T' vs.length m l ix p=.ok (l',q)→p≤E'→q≤E':=by
    intro m
    induction m with
    | zero=>intro l ix p l' q h hp;cases h;exact hp
    | succ m ih=>
     intro l ix p l' q h hp;rw[yz] at h;obtain⟨s,r,b1,b2⟩:=qs h;unfold k7 at b2;obtain⟨x,r',b3,b4⟩:=qs b2;split at b4
     · cases b4
     · split at b4
       · cases b4
       · exact ih _ _ _ _ _ b4 (hT' _ _ _ (zbz b3))
   have:=seg_le _ _ _ _ _ _ a7 hq3;omega
 · rw[k];exact⟨w,rfl⟩
end
section
open Go.RowKit
attribute [local go_sem] jc
theorem zuh (f:Fn) (a b:Array Value) (w:World):(binOp .neq 280 (.func f a b) .nilFunc).run Tryz.prog w=.ok (.bool true) w:=by kernel_rfl
theorem zui (f:Fn) (a b:Array Value) (w:World):(binOp .eql 280 (.func f a b) .nilFunc).run Tryz.prog w=.ok (.bool false) w:=by kernel_rfl
theorem zuj (w:World):(binOp .neq 280 .nilFunc .nilFunc).run Tryz.prog w=.ok (.bool false) w:=by kernel_rfl
theorem zuk (w:World):(binOp .eql 280 .nilFunc .nilFunc).run Tryz.prog w=.ok (.bool true) w:=by kernel_rfl
theorem zul (P:Program) (w:World) (a:Addr) (m:Mode):(store a .nilFunc m).run P w=stored P w a .nilFunc m:=run_store P w a _ m rfl
attribute [local go_sem] zul zuh zui zuj zuk
def PkP (w:World) (base g:Nat) (L:zb) (r:Except Nat PS) (e:Ending) (w':World):Prop:=
 Below base w w'∧match r with
 | .error c=>e=.returned (.tuple #[.bool true,.iface 35 (.int .i64 (c:Int))])
 | .ok s'=>e=.returned (.tuple #[.bool (decide (s'.tag=6)),.nilIface])∧PkR w' base g L (pkF g s'.tag) s'
theorem zum (g t:Nat) (h:t<6):∃f,pkF g t=.func (.func f) #[.pointer (some ⟨g,0,none⟩)] #[]:=by
 rcases(by omega:t=0∨t=1∨t=2∨t=3∨t=4∨t=5) with rfl | rfl | rfl | rfl | rfl | rfl <;> exact⟨_,rfl⟩
set_option maxRecDepth 20000 in
theorem zdd (base g:Nat) (L:zb) (V cu:Value) (ents hls t:Nat) (ht6:t<6) (r:Except Nat PS) (x rest:Nat) (w:World) (hg:base≤g) (hR:Row w g 282 (pkC L (pkF g t) V ents hls cu))
 (hS:∀f,pkF g t=.func (.func f) #[.pointer (some ⟨g,0,none⟩)] #[]→Calls Tryz.prog f #[.pointer (some ⟨g,0,none⟩),.int .u64 (x:Int),.int .i64 (rest:Int)] w (PkS w base g L r)) (h6:∀s',r=.ok s'→s'.tag≤6):
 Calls Tryz.prog 146 #[.pointer (some ⟨g,0,none⟩),.int .u64 (x:Int),.int .i64 (rest:Int)] w (PkP w base g L r):=by
 have q5:=hR.cell 5 rfl;have q6:=hR.cell 6 rfl;have Hg:=hid hg
 cases r with
 | error c=>
  rcases(by omega:t=0∨t=1∨t=2∨t=3∨t=4∨t=5) with rfl | rfl | rfl | rfl | rfl | rfl
  all_goals
   have HS:=hid (hS _ rfl);simp only[pkF] at q5;clear hS;clear hR h6;go_enter Tryz.func146,Tryz.ntmps146;go_wp2_with fail;refine HS.out.mono ?_;rintro e w1 ⟨hb,rfl,C,hR1,hC⟩;obtain⟨y5,p5⟩:∃y,w1.cell? ⟨g,5,none⟩=some y:=⟨_,hR1.cell 5 (List.getElem?_eq_getElem (by omega))⟩;obtain⟨y6,p6⟩:∃y,w1.cell? ⟨g,6,none⟩=some y:=⟨_,hR1.cell 6 (List.getElem?_eq_getElem (by omega))⟩;have z5:=hR1.fz 5;have z6:=hR1.fz 6;have Hb:=hid ((hb.setCell (p:=⟨g,5,none⟩) hg .nilFunc).setCell (p:=⟨g,6,none⟩) hg (.iface 35 (.int .i64 (c:Int))));clear hb hR1 hC q5 q6;go_wp2_with fail;go_quiet (fail);all_goals go_wp2_with fail
   all_goals go_ret2
   all_goals exact⟨zq Hb.out _,rfl⟩
 | ok s'=>
  rcases(by omega:t=0∨t=1∨t=2∨t=3∨t=4∨t=5) with rfl | rfl | rfl | rfl | rfl | rfl
  all_goals
   have HS:=hid (hS _ rfl);simp only[pkF] at q5;clear hS;have H6:=hid (h6 s' rfl);clear hR h6;go_enter Tryz.func146,Tryz.ntmps146;go_wp2_with fail;refine HS.out.mono ?_;rintro e w1 ⟨hb,nx,rfl,hg',V',cu',hR1,hB⟩;have p5:=hR1.cell 5 rfl;have p6:=hR1.cell 6 rfl;have z5:=hR1.fz 5;have z6:=hR1.fz 6;have Hb:=hid ((hb.setCell (p:=⟨g,5,none⟩) hg (pkF g s'.tag)).setCell (p:=⟨g,6,none⟩) hg .nilIface);have HR:=hid (show Row ((w1.setCell ⟨g,5,none⟩ (pkF g s'.tag)).setCell ⟨g,6,none⟩ .nilIface) g 282 (pkC L (pkF g s'.tag) V' s'.ents s'.hls cu') from(hR1.set 5 _).set 6 _);have HB:=hid (hB.grown hR1 (zj (a:=⟨g,6,none⟩) (zj (a:=⟨g,5,none⟩) (qf w1 _) (pkF g s'.tag) (.inr rfl)) .nilIface (.inr rfl)));clear hb hR1 hB q5 q6;by_cases ht:s'.tag=6
   · have Hd:=hid (show decide (s'.tag=6)=true from decide_eq_true ht);have Hf:=hid (show pkF g s'.tag=.nilFunc from by rw[ht];rfl);rw[Hf.out] at HR HB Hb ⊢;clear ht;go_wp2_with fail;go_quiet (fail);all_goals go_wp2_with fail
     all_goals go_ret2
     all_goals exact⟨zq Hb.out _,by rw[Hd.out];rfl,hg,V',cu',by rw[Hf.out];exact HR.out,HB.out.later (zq (Below.refl _ _) _)⟩
   · have Hd:=hid (show decide (s'.tag=6)=false from decide_eq_false ht);obtain⟨f',hf'⟩:=zum g s'.tag (by have:=H6.out;omega);have Hf:=hid hf';rw[hf'] at HR HB Hb ⊢;clear ht hf';go_wp2_with fail;go_quiet (fail);all_goals go_wp2_with fail
     all_goals go_ret2
     all_goals exact⟨zq Hb.out _,by rw[Hd.out];rfl,hg,V',cu',by rw[Hf.out];exact HR.out,HB.out.later (zq (Below.refl _ _) _)⟩
theorem zmn (base g:Nat) (L:zb) (s:PS) (x rest:Nat) (w:World) (h:PkR w base g L (pkF g s.tag) s) (ht:s.tag<6) (hL:LimsI L) (hx:x<18446744073709551616) (hr:rest<9223372036854775808) (hF:PFit s 900000000000) (he:1≤s.tag→0<s.ents):
 Calls Tryz.prog 146 #[.pointer (some ⟨g,0,none⟩),.int .u64 (x:Int),.int .i64 (rest:Int)] w (PkP w base g L (yb L.2.2.1 L.2.2.2.1 s x rest)):=by
 have h6:∀s',yb L.2.2.1 L.2.2.2.1 s x rest=.ok s'→s'.tag≤6:=fun s' hs=>(zd7 ht he hs).1
 have hvl:=hF.vl;obtain⟨hg,V,cu,hR,hB⟩:=h;have hP:PkR w base g L (pkF g s.tag) s:=⟨hg,V,cu,hR,hB⟩;rcases(by omega:s.tag=0∨s.tag=1∨s.tag=2∨s.tag=3∨s.tag=4∨s.tag=5) with e | e | e | e | e | e
 · exact zdd base g L V cu _ _ s.tag ht _ x rest w hg hR (fun f hf=>by rw[e] at hf;cases hf;exact(ztu base g L _ s x rest w hP e hL hx hr)) h6
 · exact zdd base g L V cu _ _ s.tag ht _ x rest w hg hR (fun f hf=>by rw[e] at hf;cases hf;exact(zts base g L _ s x rest w hP e hx hF.v (by omega))) h6
 · exact zdd base g L V cu _ _ s.tag ht _ x rest w hg hR (fun f hf=>by rw[e] at hf;cases hf;exact(ztv base g L _ s x rest w hP e (by omega))) h6
 · exact zdd base g L V cu _ _ s.tag ht _ x rest w hg hR (fun f hf=>by rw[e] at hf;cases hf;exact(zto base g L _ s x rest w hP e hL hx hr (he (by omega)) hF.ents)) h6
 · exact zdd base g L V cu _ _ s.tag ht _ x rest w hg hR (fun f hf=>by rw[e] at hf;cases hf;exact(ztp base g L _ s x rest w hP e hx hF.h)) h6
 · exact zdd base g L V cu _ _ s.tag ht _ x rest w hg hR (fun f hf=>by rw[e] at hf;cases hf;exact(zt9 base g L _ s x rest w hP e hx hF (he (by omega)))) h6
set_option maxRecDepth 20000 in
theorem zmo (base g:Nat) (L:zb) (s:PS) (w:World) (h:PkR w base g L (pkF g s.tag) s) (ht:s.tag=6):
 Calls Tryz.prog 147 #[.pointer (some ⟨g,0,none⟩)] w fun e w'=>(∃V,e=.returned V∧OwnV w base V s.v)∧w=w':=by
 obtain⟨hg,V,cu,hR,hB⟩:=h;have hV:OwnV w base V s.v:=by unfold PkB at hB;rw[ht] at hB;exact hB
 rw[ht] at hR;have q5:=hR.cell 5 rfl;have q6:=hR.cell 6 rfl;have q7:=hR.cell 7 rfl;have HV:=hid hV;simp only[pkF] at q5;clear hR hB hV ht;go_enter Tryz.func147,Tryz.ntmps147;go_wp2_with fail;go_ret;exact⟨⟨_,rfl,HV.out⟩,rfl⟩
end
section
def itL (L:List Seg) (i:Nat):List Iv:=(L.filter fun p=>decide (p.2=i)).map (·.1)
def jy (vs:List Vec) (L:List Seg):Kno:=zw vs (yg L) (yq L)
theorem za7 (vs:List Vec) (L:List Seg):(jy vs L).length=vs.length:=zko _ _ _ _
theorem zco {vs:List Vec} {L:List Seg} {i:Nat} (h:i<vs.length):zd (jy vs L) i=(itL L i,yt vs i):=by
 have:=zrx (vs:=vs) (l:=yg L) (ix:=(yq L).map fun (n:Nat)=>(n:Int)) (d:=(yg L).length) h;rw[zme L i _ (by rw[jx];exact Nat.le_refl _),jx,List.take_length] at this;unfold jy zw zfl;rw[jx];exact this
theorem zfx {L:List Seg} {i:Nat} {s:Iv} (h:s∈itL L i):(s,i)∈L:=by
 obtain⟨p,hp,rfl⟩:=List.mem_map.1 h;obtain⟨h1,h2⟩:=List.mem_filter.1 hp;have e:p.2=i:=of_decide_eq_true h2;subst e;exact h1
theorem zun {L:List Seg} (h:L.Pairwise zhv):∀p∈L,∀q∈L,p=q∨p.1.2<q.1.1∨q.1.2<p.1.1:=by
 intro p hp q hq;obtain⟨i,hi,rfl⟩:=List.getElem_of_mem hp;obtain⟨j,hj,rfl⟩:=List.getElem_of_mem hq;rcases Nat.lt_trichotomy i j with h1 | h1 | h1
 · exact .inr (.inl (List.pairwise_iff_getElem.1 h i j hi hj h1).1)
 · subst h1;exact .inl rfl
 · exact .inr (.inr (List.pairwise_iff_getElem.1 h j i hj hi h1).1)
theorem zmp {le lh:Int} {vs:List Vec} {L:List Seg} (hv:VsInv le lh vs) (hs:SInv vs.length (yg L) (yq L)) (hne:∀f∈jy vs L,f.1≠[]):CanK (jy vs L)∧LtK (jy vs L):=by
 obtain⟨h1,h2⟩:=zmf hs
 have hmem:∀f∈jy vs L,∃i,i<vs.length∧f=(itL L i,yt vs i):=fun f hf=>by
  obtain⟨i,hi,rfl⟩:=List.getElem_of_mem hf;have hi':=hi;rw[za7] at hi';exact⟨i,hi',by rw[←yo hi,zco hi']⟩
 have hgood:∀i,Good (itL L i):=fun i=>zmg (List.pairwise_map.2 ((h1.filter _).imp_of_mem fun {p q} hp hq hpq=>by
  have e1:p.2=i:=of_decide_eq_true (List.mem_filter.1 hp).2;have e2:q.2=i:=of_decide_eq_true (List.mem_filter.1 hq).2;exact hpq.2 (by rw[e1,e2]))) fun s hs=>(h2 _ (zfx hs)).1
 refine⟨⟨fun f hf=>?_,fun f hf=>?_,fun f hf g hg x hx hy=>?_,?_⟩,fun f hf=>?_⟩
 · obtain⟨i,hi,rfl⟩:=hmem f hf;exact⟨hgood i,hne _ hf⟩
 · obtain⟨i,hi,rfl⟩:=hmem f hf;have:=hv.all _ (zg9 hi);exact⟨this.1,this.2.2.1⟩
 · obtain⟨i,hi,rfl⟩:=hmem f hf;obtain⟨j,hj,rfl⟩:=hmem g hg;obtain⟨s,hs1,hs2,hs3⟩:=mem_iff.1 hx;obtain⟨t,ht1,ht2,ht3⟩:=mem_iff.1 hy;rcases zun h1 _ (zfx hs1) _ (zfx ht1) with e | e | e
   · have e':i=j:=congrArg Prod.snd e;subst e'
     rfl
   · simp only at e;omega
   · simp only at e;omega
 · refine List.pairwise_iff_getElem.2 fun i j hi hj hij=>?_
   have hi':=hi;have hj':=hj;rw[za7] at hi' hj';have h3:=List.pairwise_iff_getElem.1 hv.asc i j hi' hj' hij;unfold zdv;rw[←yo hi,←yo hj,zco hi',zco hj',zbd hi',zbd hj'];exact h3
 · obtain⟨i,hi,rfl⟩:=hmem f hf;have:=hv.all _ (zg9 hi);exact⟨fun s hs'=>hs.lt s (List.mem_map.2 ⟨_,zfx hs',rfl⟩),this.2.1,this.1.asc⟩
theorem zuo {n:Nat}:∀{L:List Seg},(∀p∈L,p.2<n)→L.Perm ((List.range n).flatMap fun i=>L.filter fun p=>decide (p.2=i)):=by
 induction n with
 | zero=>
  intro L h
  cases L with
  | nil=>simp
  | cons p L=>exact absurd (h p List.mem_cons_self) (by omega)
 | succ n ih=>
  intro L h;rw[List.range_succ,List.flatMap_append];have e:((L.filter fun p=>decide (p.2=n))++(L.filter fun p=> !decide (p.2=n))).Perm L:=List.filter_append_perm _ _;refine e.symm.trans (List.perm_append_comm.trans ?_)
  have h1:=ih (L:=L.filter fun p=> !decide (p.2=n)) (fun p hp=>by
   obtain⟨a,b⟩:=List.mem_filter.1 hp;have:=h p a;have b':p.2≠n:=by simpa using b
   omega)
  have e2:((List.range n).flatMap fun i=>(L.filter fun p=> !decide (p.2=n)).filter fun p=>decide (p.2=i))=(List.range n).flatMap fun i=>L.filter fun p=>decide (p.2=i):=by
   rw[List.flatMap_def,List.flatMap_def];refine congrArg List.flatten (List.map_congr_left fun i hi=>?_);rw[List.filter_filter];refine List.filter_congr fun p _=>?_
   have:=List.mem_range.1 hi;by_cases hp:p.2=i
   · have:p.2≠n:=by omega
     simp[hp];omega
   · simp[hp]
  rw[e2] at h1;refine h1.append ?_;simp
theorem zmq (c:Kno):∀d,d≤c.length→vr c d=c.length :: ((vsK c).take d).flatMap zar
 | 0,_=>by simp[vr]
 | d+1,h=>by
   rw[vr,zmq c d (by omega),List.take_succ_eq_append_getElem (by rw[zby];exact h),zfu h,List.flatMap_append];simp
theorem zup (vs:List Vec) (L:List Seg):vsK (jy vs L)=vs:=by
 refine List.ext_getElem (by rw[zby,za7]) fun i h1 h2=>?_
 rw[zfu (by rw[za7];exact h2),zco h2,zbd h2]
theorem zuq {le lh:Int} {vs:List Vec} {L:List Seg} (hv:VsInv le lh vs) (hs:SInv vs.length (yg L) (yq L)) (hne:∀f∈jy vs L,f.1≠[]):(zf (jy vs L)).map (·.1)=yg L∧(zf (jy vs L)).map (·.2)=yq L:=by
 obtain⟨hc,hl⟩:=zmp hv hs hne;obtain⟨h1,h2⟩:=zmf hs
 have hp:(yg L).Perm (zap (jy vs L)):=by
  have e:=(zuo (n:=vs.length) (L:=L) fun p hp=>(h2 p hp).2).map (·.1);refine e.trans ?_;rw[List.map_flatMap]
  have:zap (jy vs L)=(List.range vs.length).flatMap fun i=>(L.filter fun p=>decide (p.2=i)).map (·.1):=by
   unfold zap
   have:jy vs L=(List.range vs.length).map fun i=>(itL L i,yt vs i):=List.ext_getElem (by rw[za7];simp) fun i a b=>by
    rw[za7] at a;rw[←yo,zco a,List.getElem_map,List.getElem_range]
   rw[this,List.flatMap_map]
   rfl
  rw[this]
 have ha:zgj (yg L):=fun i j hij hj=>by
  rw[jx] at hj;have h3:=(List.pairwise_iff_getElem.1 h1 i j (by omega) hj hij).1;have h4:=(h2 _ (List.getElem_mem (show i<L.length by omega))).1;rw[qg (by rw[jx];omega),qg (by rw[jx];exact hj)];simp only[yg,List.getElem_map];omega
 obtain⟨e1,e2⟩:=zrc hc hp ha;refine⟨e1.symm,?_⟩;rw[←e2];unfold yg yq;rw[List.map_map];refine List.map_congr_left fun p hp=>?_
 have hi:=(h2 p hp).2
 have:=zkd hc (i:=p.2) (s:=p.1) (by rw[za7];exact hi) (by
  rw[zco hi];exact List.mem_map.2 ⟨p,List.mem_filter.2 ⟨hp,decide_eq_true rfl⟩,rfl⟩)
 exact this
theorem zmr {T:zl} (hT:T64 T) {E p q:Nat} {L:zb} {c:Kno} (h:zx T E L p=.ok (c,q)):CanK c∧LtK c∧okK L c∧yu T p (jl c) q∧E≤q:=by
 unfold zx at h;obtain⟨n,r,h1,h2⟩:=qs h;obtain⟨t1,c1⟩:=zee h1;obtain⟨vs,r2,h3,h4⟩:=qs h2;obtain⟨a1,a2,a3⟩:=zma hT n [] h3 ⟨fun v hv=>(by cases hv),List.Pairwise.nil⟩ (P0:=r) rfl;have hn:vs.length=n:=by simpa using a3
 unfold vy at h4;obtain⟨m,r3,h5,h6⟩:=qs h4;obtain⟨t2,c2⟩:=zee h5;obtain⟨⟨l,ix⟩,r4,h7,h8⟩:=qs h6;obtain⟨b1,b2,b3⟩:=zmd hT m [] [] h7 ⟨fun i hi=>(by simp at hi),fun t ht=>(by cases ht),rfl,fun i hi=>(by simp at hi),fun i _ hi=>(by simp at hi)⟩ (P0:=r3) rfl;have hm:l.length=m:=by simpa using b3
 simp only at h8;obtain⟨S,e1,e2⟩:∃S:List Seg,yg S=l∧yq S=ix:=⟨l.zip ix,List.map_fst_zip (by rw[b2.len];exact Nat.le_refl _),List.map_snd_zip (by rw[b2.len];exact Nat.le_refl _)⟩;subst e1 e2;unfold jp at h8;split at h8
 · cases h8
 · rename_i h9;split at h8
   · cases h8
   · rename_i h10;cases h8;have hne:∀f∈jy vs S,f.1≠[]:=fun f hf e=>h9 ⟨f,hf,e⟩
     obtain⟨g1,g2⟩:=zmp a2 b2 hne;obtain⟨g3,g4⟩:=zuq a2 b2 hne;have hsl:(zf (jy vs S)).length=(yg S).length:=by rw[←g3,List.length_map]
     refine⟨g1,g2,⟨?_,fun i hi=>?_,?_⟩,?_,by omega⟩
     · show okC (jy vs S).length _;rw[za7,hn];exact c1
     · have hi':i<vs.length:=by rw[←za7 vs S];exact hi
       show okV _ _ (zd (jy vs S) i).2;rw[zco hi'];exact(a2.all _ (zg9 hi')).2.2.2
     · show okC (zf (jy vs S)).length _;rw[hsl,hm];exact c2
     · show yu T p (jl (jy vs S)) _;unfold jl;rw[g3,g4,hsl,zmq _ _ (Nat.le_refl _),List.take_of_length_le (by rw[zby];exact Nat.le_refl _),zup,za7,zmb];refine jt.2 ⟨r2,⟨r,by rw[hn];exact t1,a1⟩,⟨r3,by rw[hm];exact t2,b1⟩⟩
