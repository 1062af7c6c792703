/- Part 12. -/
import Derived.Test.YtdnipikdddfhfaaGreatDoorSa11
set_option linter.unusedVariables false
set_option maxHeartbeats 16000000
namespace Go.Proofs.YtdnipikdddfhfaaGreatDoor
open Lib (hid)
section
open Go.RowKit Go.Maps
theorem zto (b:Bool):plainElem (H:=Value) Tryz.prog 4 (.bool b)=some (.lit (.bool b),[]):=plainElem_bool Tryz.underlying4 b
theorem wfI {x:Nat} (h:x<9223372036854775808):(Lit.int .i64 (x:Int)).wf=true:=by
 simp[Lit.wf,IntKind.min,IntKind.max,IntKind.signed,IntKind.bits];omega
theorem zlr:Maps.Keyed Tryz.prog 3:=int_keyed Tryz.underlying3
theorem ztp {x:Nat} (h:x<9223372036854775808):keyOf Tryz.prog 3 (.int .i64 (x:Int))=some (.int .i64 (x:Int)):=keyOf_int_mk Tryz.underlying3 (wfI h)
theorem ztq {r x:Nat} (h:r≠x):Lit.int .i64 (r:Int)≠Lit.int .i64 (x:Int):=fun e=>h (by cases e;rfl)
def UsedM (w:World) (U:Nat) (ix:List Nat):Prop:=
 ∃n D,w.ownsMap Tryz.prog 3 (plainElem (H:=Value) Tryz.prog 4) U n D∧n≤ix.length∧(∀i:Nat,Maps.has D (.int .i64 (i:Int))=decide (i∈ix))∧∀N,(∀i∈ix,i<N)→Maps.size D=jd ix N
theorem zls (w:World):UsedM (w.alloc (.map #[] 0)) w.heap.size []:=
 ⟨0,.map [],World.ownsMap_made _ _ _ _,Nat.le_refl _,fun i=>rfl,fun N _=>(zlm N).symm⟩
theorem UsedM.same {w w':World} {U:Nat} {ix:List Nat} (h:UsedM w U ix) (hk:w'.heap[U]?=w.heap[U]?):UsedM w' U ix:=by
 obtain⟨n,D,⟨es,clock,h1,h2⟩,h3⟩:=h;exact⟨n,D,⟨es,clock,hk.trans h1,h2⟩,h3⟩
theorem UsedM.notT {w:World} {U:Nat} {ix:List Nat} (h:UsedM w U ix):NotT w U:=by
 obtain⟨n,D,⟨es,clock,h1,h2⟩,h3⟩:=h;exact zta h1
theorem UsedM.lt {w:World} {U:Nat} {ix:List Nat} (h:UsedM w U ix):U<w.heap.size:=by
 obtain⟨n,D,⟨es,clock,h1,h2⟩,h3⟩:=h;exact(Array.getElem?_eq_some_iff.1 h1).1
theorem UsedM.ne {w:World} {U g:Nat} {ix:List Nat} {C:Array Value} {T:TypeId} {fr:Nat×Nat} (h:UsedM w U ix) (hg:w.heap[g]?=some (.cells C T fr)):U≠g:=by
 obtain⟨n,D,⟨es,clock,h1,h2⟩,h3⟩:=h;intro e;subst e;rw[h1] at hg;injection hg with hg;cases hg
theorem UsedM.put {w:World} {U:Nat} {ix:List Nat} (h:UsedM w U ix) {i:Nat} (hi:i<9223372036854775808) (hl:ix.length<9223372036854775807):
 ∃w',(Instr.mapUpdate 124 (.map (some U)) (.int .i64 (i:Int)) (.bool true)).run Tryz.prog w=.ok () w'∧UsedM w' U (ix++[i])∧w.grownBy w' (some U):=by
 obtain⟨n,D,h1,h2,h3,h4⟩:=h;obtain⟨w',hrun,r1,r2⟩:=h1.update zlr Tryz.underlying124 (by unfold maxLen;omega) (ztp hi) (zto true);have hT:=h1.tidy zlr;refine⟨w',hrun,⟨n+1,_,r1,by simp;omega,fun j=>?_,fun N hN=>?_⟩,r2⟩
 · by_cases e:j=i
   · subst e;rw[has_put_same hT.isMap (show WideAt.IsKeyLit (.int .i64 (j:Int)) from trivial)];simp
   · rw[has_put_other (ztq e),h3 j];simp[e]
 · have hiN:i<N:=hN i (by simp);rw[size_put hT,h3 i,h4 N (fun j hj=>hN j (by simp[hj])),zlk hiN];by_cases e:i∈ix
   · simp[e]
   · simp[e]
theorem UsedM.len {w:World} {U:Nat} {ix:List Nat} (h:UsedM w U ix) (N:Nat) (hN:∀i∈ix,i<N) (ty:TypeId):(Builtin.len_ #[124] ty #[.map (some U)]).run Tryz.prog w=.ok (.int .i64 ((jd ix N:Nat):Int)) w:=by
 obtain⟨n,D,h1,h2,h3,h4⟩:=h;rw[h1.len Tryz.underlying124 ty,h4 N hN]
theorem zlt {w:World} {ops:Array Oper} {rest:List Oper} {o:Oper} {a:Act} {Q:Exit→Act→World→Prop} (hg:o.guard=none) (m x v:Operand) (hop:o.op=Op.mapUpdate 124 m x v)
 (U:Nat) (ix:List Nat) (h:UsedM w U ix) (i:Nat) (hi:i<9223372036854775808) (hl:ix.length<9223372036854775807) (hm:a.eval m=.map (some U)) (hx:a.eval x=.int .i64 (i:Int)) (hv:a.eval v=.bool true)
 (hK:∀w',UsedM w' U (ix++[i])→w.grownBy w' (some U)→wpList Tryz.prog ops Q rest (a.put o.dst undef) w'):wpList Tryz.prog ops Q (o :: rest) a w:=by
 refine wpList_plain hg fun K' hK'=>?_
 obtain⟨w',hrun,r1,r2⟩:=h.put hi hl;unfold Oper.wp;simp[execOp,hop,hm,hx,hv,hrun,Result.andThen];exact hK' _ _ (hK w' r1 r2)
end
section
open Go.RowKit
attribute [local go_sem] yq
def zec (w:World) (g ap lo d:Nat) (last:Option Iv) (e:Ending) (w':World):Prop:=
 if lo+d<18446744073709551616 then e=.returned (.tuple #[ivV (lo,lo+d),.bool true])∧Row w' g 193 (qk g ap lo (some (lo,lo+d)) false)∧w.grownBy w' (some g)
 else e=.returned (.tuple #[ivV (0,0),.bool false])∧Row w' g 193 (qk g ap lo last true)∧w.grownBy w' (some g)
set_option maxRecDepth 20000 in
theorem zlu (g ap lo d:Nat) (last:Option Iv) (w:World) (h:Row w g 193 (qk g ap lo last true)) (hlo:lo<18446744073709551616) (hd:d<18446744073709551616):
 Calls Tryz.prog 151 #[.pointer (some ⟨g,0,none⟩),.int .u64 (d:Int)] w (zec w g ap lo d last):=by
 have q1:=fun o=>(h.later ((Below.refl _ _).alloc (Nat.le_refl _) o)).cell 1 rfl
 have q5:=fun o=>(h.later ((Below.refl _ _).alloc (Nat.le_refl _) o)).cell 5 rfl
 have h64:∀x∈[lo,d],x<18446744073709551616:=fun x hx=>by
  simp only[List.mem_cons,List.not_mem_nil,or_false] at hx;rcases hx with rfl | rfl <;> assumption
 have hsum:[lo,d].sum=lo+d:=by simp only[List.sum_cons,List.sum_nil,Nat.add_zero]
 have H:=hid h;have H64:=hid h64;have Hal:Below w.heap.size w (w.alloc (.cells #[.int .u64 0,.int .u64 0] 89)):=(Below.refl _ _).alloc (Nat.le_refl _) _;have Ha:=hid Hal;have HX:=hid (yo w 89 [.int .u64 0,.int .u64 0]);clear hlo hd h64 Hal;by_cases hc:lo+d<18446744073709551616
 · have Hr:=hid (fun e w'=>show zec w g ap lo d last e w'=_ from if_pos hc);have hv:qm [lo,d].sum=.tuple #[.int .u64 ((lo+d:Nat):Int),.bool true]:=by rw[hsum];exact zd9 hc
   have HS:=hid (fun W g hW=>zc9 [lo,d] W g 2 hW rfl H64.out (by omega) hv);clear hc hsum hv;generalize lo+d=S at*;go_enter Tryz.func151,Tryz.ntmps151;go_wp2_with fail;refine(HS.out _ (w.heap.size+1) (by exact qj _ _ _ (by simp))).mono ?_;rintro e w1 ⟨rfl,hb1⟩;have hb2:=(Below.refl _ _).alloc (Nat.le_refl _) _ |>.trans (hb1.mono (by simp))
   have hX:=HX.out.later hb2;have x0:=hX.cell 0 rfl;have x1:=hX.cell 1 rfl;have y0:=hX.fz 0;have y1:=hX.fz 1;have h1:=H.out.later (Ha.out.trans (hb2.mono (by simp)));have p1:=h1.cell 1 rfl;have p2:=h1.cell 2 rfl;have p3:=h1.cell 3 rfl;have p4:=h1.cell 4 rfl;have p5:=h1.cell 5 rfl;have p6:=h1.cell 6 rfl;have z2:=h1.fz 2;have z3:=h1.fz 3;have z4:=h1.fz 4;have z5:=h1.fz 5;have z6:=h1.fz 6;have hne:¬g=w.heap.size:=by have:=H.out.lt;omega
   have HF:=hid (show Row (((((w1.setCell ⟨g,2,none⟩ (.int .u64 (lo:Int))).setCell ⟨g,3,none⟩ (.int .u64 (S:Int))).setCell ⟨g,4,none⟩ (.bool true)).setCell ⟨g,5,none⟩ (.bool false)).setCell ⟨g,6,none⟩ (zc8 g (some (lo,S)))) g 193 (qk g ap lo (some (lo,S)) false) from Row.set (Row.set (Row.set (Row.set (h1.set 2 _) 3 _) 4 _) 5 _) 6 _);have Hb1:=hid (Ha.out.trans (hb2.mono (by simp)));have G1:=zk (a:=⟨g,2,none⟩) (zfj (r:=some g) Hb1.out rfl) (.int .u64 (lo:Int)) (.inr rfl);have G2:=zk (a:=⟨g,3,none⟩) G1 (.int .u64 (S:Int)) (.inr rfl);have G3:=zk (a:=⟨g,4,none⟩) G2 (.bool true) (.inr rfl);have G4:=zk (a:=⟨g,5,none⟩) G3 (.bool false) (.inr rfl);have G5:=zk (a:=⟨g,6,none⟩) G4 (zc8 g (some (lo,S))) (.inr rfl);have G6:=zk (a:=⟨w.heap.size,0,none⟩) G5 (.int .u64 (lo:Int)) (.inl (Nat.le_refl _));have HG:=hid (zk (a:=⟨w.heap.size,1,none⟩) G6 (.int .u64 (S:Int)) (.inl (Nat.le_refl _)));clear h1 hb1 hb2 hX q1 q5 G1 G2 G3 G4 G5 G6;simp only[zc8] at HF HG;go_wp2_with fail;refine bodyPost_ret (v:=.tuple #[ivV (lo,S),.bool true]) (by simp[results,Tryz.results151,go_sem,ivV,x0,x1]) rfl ?_;rw[Hr.out];exact⟨rfl,(HF.out.other (a:=⟨w.heap.size,0,none⟩) hne _).other (a:=⟨w.heap.size,1,none⟩) hne _,HG.out⟩
 · have Hr:=hid (fun e w'=>show zec w g ap lo d last e w'=_ from if_neg hc);have hv:qm [lo,d].sum=.tuple #[.int .u64 0,.bool false]:=by rw[hsum];exact zea hc
   have HS:=hid (fun W g hW=>zc9 [lo,d] W g 2 hW rfl H64.out (by omega) hv);clear hc hsum hv;go_enter Tryz.func151,Tryz.ntmps151;go_wp2_with fail;refine(HS.out _ (w.heap.size+1) (by exact qj _ _ _ (by simp))).mono ?_;rintro e w1 ⟨rfl,hb1⟩;have hb2:=(Below.refl _ _).alloc (Nat.le_refl _) _ |>.trans (hb1.mono (by simp))
   have hX:=HX.out.later hb2;have x0:=hX.cell 0 rfl;have x1:=hX.cell 1 rfl;have y0:=hX.fz 0;have y1:=hX.fz 1;have HF:=hid (H.out.later (Ha.out.trans (hb2.mono (by simp))));have hne:¬g=w.heap.size:=by have:=H.out.lt;omega
   have Hb1:=hid (Ha.out.trans (hb2.mono (by simp)));have G1:=zk (a:=⟨w.heap.size,0,none⟩) (zfj (r:=some g) Hb1.out rfl) (.int .u64 0) (.inl (Nat.le_refl _));have HG:=hid (zk (a:=⟨w.heap.size,1,none⟩) G1 (.int .u64 0) (.inl (Nat.le_refl _)));clear hb1 hb2 hX q1 q5 G1;go_wp2_with fail;refine bodyPost_ret (v:=.tuple #[ivV (0,0),.bool false]) (by simp[results,Tryz.results151,go_sem,ivV,x0,x1]) rfl ?_;rw[Hr.out];exact⟨rfl,(HF.out.other (a:=⟨w.heap.size,0,none⟩) hne _).other (a:=⟨w.heap.size,1,none⟩) hne _,HG.out⟩
theorem zlv (g ap lo:Nat) (last:Option Iv) (op:Bool) (w:World) (h:Row w g 193 (qk g ap lo last op)):
 Calls Tryz.prog 149 #[.pointer (some ⟨g,0,none⟩)] w fun e w'=>e=.returned (.tuple #[ivV (last.getD (0,0)),.bool last.isSome])∧Below w.heap.size w w':=by
 have q2:=fun o=>(h.later ((Below.refl _ _).alloc (Nat.le_refl _) o)).cell 2 rfl
 have q3:=fun o=>(h.later ((Below.refl _ _).alloc (Nat.le_refl _) o)).cell 3 rfl
 have q4:=fun o=>(h.later ((Below.refl _ _).alloc (Nat.le_refl _) o)).cell 4 rfl
 clear h;generalize last.isSome=b at*;generalize last.getD (0,0)=s at*;obtain⟨s1,s2⟩:=s;simp only at q2 q3;go_enter Tryz.func149,Tryz.ntmps149;go_wp2;go_region
 all_goals go_wp2
 all_goals exact bodyPost_ret (v:=.tuple #[ivV (s1,s2),.bool b]) (by simp[results,Tryz.results149,go_sem,ivV]) rfl ⟨rfl,((Below.refl _ _).alloc (Nat.le_refl _) _).drew⟩
end
section
structure PFit (s:PS) (n:Nat):Prop where
 v:LtV s.v
 vl:s.v.length≤n
 rep:s.rep<18446744073709551616
 mx:s.mx<18446744073709551616
 lo:s.lo<18446744073709551616
 h:yi s.h
 hl:s.h.length≤n
 ents:s.ents<18446744073709551616
 hls:s.hls<18446744073709551616
theorem PFit.mono {s:PS} {n m:Nat} (h:PFit s n) (hm:n≤m):PFit s m:=⟨h.v,Nat.le_trans h.vl hm,h.rep,h.mx,h.lo,h.h,Nat.le_trans h.hl hm,h.ents,h.hls⟩
theorem zfl (n:Nat):PFit ps0 n:=⟨fun e h=>(by cases h),Nat.zero_le _,by decide,by decide,by decide,fun t h=>(by cases h),Nat.zero_le _,by decide,by decide⟩
theorem zlw {s:PS} {n k:Nat} {l:List Iv} (hs:PFit s n) (hk:k<18446744073709551616) (hl:yi l) (hn:l.length≤n+1):PFit (qn s k l) (n+1):=by
 have hv:LtV (s.v++[(s.rep,s.mx,l)]):=fun e he=>by
  rcases List.mem_append.1 he with h | h
  · exact hs.v e h
  · rw[List.mem_singleton] at h;subst h;exact⟨hs.rep,hs.mx,hl⟩
 have hvl:(s.v++[(s.rep,s.mx,l)]).length≤n+1:=by have:=hs.vl;simp;omega
 have he:=hs.ents;unfold qn;split
 · exact⟨hs.v,by have:=hs.vl;simp only;omega,hs.rep,hs.mx,hs.lo,hl,hn,hs.ents,by simp only;omega⟩
 · split
   · exact⟨hv,hvl,hs.rep,hs.mx,hs.lo,fun t h=>(by cases h),Nat.zero_le _,by simp only;omega,by simp⟩
   · exact⟨hv,hvl,hs.rep,hs.mx,hs.lo,fun t h=>(by cases h),Nat.zero_le _,by simp only;omega,by simp⟩
theorem zhk {o:Option Nat} {a x lo:Nat} (hx:x<18446744073709551616) (h:loP o a x=some lo):lo<18446744073709551616:=by
 cases o with
 | none=>cases h;exact hx
 | some q=>
  simp only[loP] at h;split at h
  · cases h;assumption
  · cases h
theorem ztr {v:Vec} {x r:Nat} (hx:x<18446744073709551616) (h:jv v x=some r):r<18446744073709551616:=by
 unfold jv at h;split at h
 · cases h;exact hx
 · split at h
   · cases h;assumption
   · cases h
theorem zhl {le lh:Int} {s s':PS} {x rest n:Nat} (hs:PFit s n) (ht:s.tag<6) (hx:x<18446744073709551616) (h:zy le lh s x rest=.ok s'):PFit s' (n+1):=by
 have hm:=hs.mono (Nat.le_succ n);obtain⟨tag,v,rep,mx,hh,ents,hls,lo⟩:=s;simp only at ht;rcases(by omega:tag=0∨tag=1∨tag=2∨tag=3∨tag=4∨tag=5) with rfl | rfl | rfl | rfl | rfl | rfl <;> simp only[zy] at h
 · split at h
   · cases h
   · split at h
     · cases h
     · cases h;exact⟨fun e h=>(by cases h),Nat.zero_le _,hm.rep,hm.mx,hm.lo,hm.h,hm.hl,hx,hm.hls⟩
 · cases hr:jv v x with
   | none=>rw[hr] at h;cases h
   | some r=>rw[hr] at h;cases h;exact⟨hm.v,hm.vl,ztr hx hr,hm.mx,hm.lo,hm.h,hm.hl,hm.ents,hm.hls⟩
 · cases h;exact⟨hm.v,hm.vl,hm.rep,hx,hm.lo,hm.h,hm.hl,hm.ents,hm.hls⟩
 · split at h
   · cases h
   · cases h;exact zlw hs hx (fun t h=>(by cases h)) (Nat.zero_le _)
 · cases hr:loP (zp hh) 1 x with
   | none=>rw[hr] at h;cases h
   | some r=>rw[hr] at h;cases h;exact⟨hm.v,hm.vl,hm.rep,hm.mx,zhk hx hr,hm.h,hm.hl,hm.ents,hm.hls⟩
 · split at h
   · rename_i hc;cases h;refine zlw hs hs.hls (fun t ht=>?_) (by have:=hs.hl;simp only[List.length_append,List.length_cons,List.length_nil] at this ⊢;omega);rcases List.mem_append.1 ht with h | h
     · exact hs.h t h
     · rw[List.mem_singleton] at h;subst h;exact⟨hs.lo,hc.1⟩
   · cases h
structure WFit (s:WS) (n:Nat):Prop where
 vs:∀v∈s.vs,LtV v
 vsl:s.vs.length≤n
 l:yi s.l
 ll:s.l.length≤n
 li:s.ix.length=s.l.length
 ix:∀i∈s.ix,i<s.vs.length
 left:s.left<18446744073709551616
 lo:s.lo<18446744073709551616
 hi:s.hi<18446744073709551616
 frm:s.frm≤n
 inner:PFit s.inner n
theorem zts:WFit ws0 0:=⟨fun v h=>(by cases h),Nat.le_refl _,fun t h=>(by cases h),Nat.le_refl _,rfl,fun i h=>(by cases h),by decide,by decide,by decide,Nat.le_refl _,zfl 0⟩
theorem WFit.mono {s:WS} {n m:Nat} (h:WFit s n) (hm:n≤m):WFit s m:=⟨h.vs,Nat.le_trans h.vsl hm,h.l,Nat.le_trans h.ll hm,h.li,h.ix,h.left,h.lo,h.hi,Nat.le_trans h.frm hm,h.inner.mono hm⟩
theorem zlx {E:Nat} {L:za} {s s':WS} {x p q:Nat} (hs:WFit s p) (hI:WInv s) (h4:s.tag<4) (hx:x<18446744073709551616) (hq:p<q) (h:ye E L s x p q=.ok s'):WFit s' q:=by
 have hm:=hs.mono (Nat.le_of_lt hq)
 have fin:∀t:WS,WFit t q→∀t',jk E t q=.ok t'→WFit t' q:=fun t ht t' h=>by
  unfold jk at h;split at h
  · cases h
  · split at h
    · cases h
    · cases h;exact⟨ht.vs,ht.vsl,ht.l,ht.ll,ht.li,ht.ix,ht.left,ht.lo,ht.hi,ht.frm,ht.inner⟩
 have h2:=hI.turn;have hin:=hI.inner;obtain⟨tag,vs,l,ix,left,frm,inner,turn,lo,hi,tch⟩:=s;simp only at h2 hin h4
 have hfr:jf ⟨tag,vs,l,ix,left,frm,inner,turn,lo,hi,tch⟩ p≤q:=by
  unfold jf;have:=hs.frm;simp only at this ⊢;split <;> omega
 have g1:=hs.vsl;have g2:=hs.ll;have g3:=hs.left;simp only at g1 g2 g3;rcases(by omega:tag=0∨tag=1∨tag=2∨tag=3) with rfl | rfl | rfl | rfl <;> simp only[ye] at h
 · split at h
   · cases h
   · split at h
     · cases h;exact⟨hm.vs,hm.vsl,hm.l,hm.ll,hm.li,hm.ix,hm.left,hm.lo,hm.hi,hm.frm,hm.inner⟩
     · cases h;exact⟨hm.vs,hm.vsl,hm.l,hm.ll,hm.li,hm.ix,hx,hm.lo,hm.hi,hm.frm,zfl q⟩
 · obtain⟨i1,i2⟩:=hin rfl
   cases hp:zy L.2.2.1 L.2.2.2.1 inner x (E - q) with
   | error c=>rw[hp] at h;cases h
   | ok i=>
    rw[hp] at h;simp only at h;have hi':=(zhl hs.inner i1 hx hp).mono hq
    have hvs:∀v∈vs++[i.v],LtV v:=fun v hv=>by
     rcases List.mem_append.1 hv with h | h
     · exact hs.vs v h
     · rw[List.mem_singleton] at h;subst h;exact hi'.v
    have hvl:(vs++[i.v]).length≤q:=by simp;omega
    have hix:∀j∈ix,j<(vs++[i.v]).length:=fun j hj=>by have:=hs.ix j hj;simp only[List.length_append] at this ⊢;omega
    split at h
    · split at h
      · cases h
      · split at h
        · cases h;exact⟨hvs,hvl,hm.l,hm.ll,hm.li,hix,by simp,hm.lo,hm.hi,hm.frm,zfl q⟩
        · cases h;exact⟨hvs,hvl,hm.l,hm.ll,hm.li,hix,by simp only;omega,hm.lo,hm.hi,hm.frm,zfl q⟩
    · cases h;exact⟨hm.vs,hm.vsl,hm.l,hm.ll,hm.li,hm.ix,hm.left,hm.lo,hm.hi,hfr,hi'⟩
 · split at h
   · cases h
   · split at h
     · exact fin _ hm _ h
     · cases h;exact⟨hm.vs,hm.vsl,hm.l,hm.ll,hm.li,hm.ix,hx,hm.lo,hm.hi,hm.frm,hm.inner⟩
 · rcases(by omega:turn=0∨turn=1∨turn=2) with rfl | rfl | rfl <;> simp only at h
   · cases hq':loP (zp l) 0 x with
     | none=>rw[hq'] at h;cases h
     | some r=>rw[hq'] at h;cases h;exact⟨hm.vs,hm.vsl,hm.l,hm.ll,hm.li,hm.ix,hm.left,zhk hx hq',hm.hi,hm.frm,hm.inner⟩
   · split at h
     · rename_i hc;cases h;exact⟨hm.vs,hm.vsl,hm.l,hm.ll,hm.li,hm.ix,hm.left,hm.lo,hc,hm.frm,hm.inner⟩
     · cases h
   · split at h
     · cases h
     · rename_i hx8
       have k1:yi (l++[(lo,hi)]):=fun t ht=>by
        rcases List.mem_append.1 ht with h | h
        · exact hs.l t h
        · rw[List.mem_singleton] at h;subst h;exact⟨hs.lo,hs.hi⟩
       have k2:(l++[(lo,hi)]).length≤q:=by simp;omega
       have k3:(ix++[x]).length=(l++[(lo,hi)]).length:=by have:=hs.li;simp only[List.length_append,List.length_cons,List.length_nil] at this ⊢;omega
       have k4:∀j∈ix++[x],j<vs.length:=fun j hj=>by
        rcases List.mem_append.1 hj with h | h
        · exact hs.ix j h
        · rw[List.mem_singleton] at h;subst h;omega
       split at h
       · cases h
       · split at h
         · exact fin ⟨3,vs,l++[(lo,hi)],ix++[x],0,frm,inner,0,lo,hi,tch⟩ ⟨hm.vs,hm.vsl,k1,k2,k3,k4,by simp,hm.lo,hm.hi,hm.frm,hm.inner⟩ _ h
         · cases h;exact⟨hm.vs,hm.vsl,k1,k2,k3,k4,by simp only;omega,hm.lo,hm.hi,hm.frm,hm.inner⟩
def zck (s:WS):Prop:=1≤s.turn→s.tch=true→s.l≠[]
theorem ztt:zck ws0:=fun h=>by simp[ws0] at h
theorem ztu {l:List Iv} {z:Nat} (h:v8 l z=true):l≠[]:=fun e=>by subst e;cases h
theorem ztv {E:Nat} {L:za} {s s':WS} {x p q:Nat} (hs:zck s) (hI:WInv s) (h4:s.tag<4) (h:ye E L s x p q=.ok s'):zck s':=by
 have fin:∀t:WS,zck t→∀t',jk E t q=.ok t'→zck t':=fun t ht t' h=>by
  unfold jk at h;split at h
  · cases h
  · split at h
    · cases h
    · cases h;exact ht
 have h2:=hI.turn;obtain⟨tag,vs,l,ix,left,frm,inner,turn,lo,hi,tch⟩:=s;simp only at h2 h4;rcases(by omega:tag=0∨tag=1∨tag=2∨tag=3) with rfl | rfl | rfl | rfl <;> simp only[ye] at h
 · split at h
   · cases h
   · split at h
     · cases h;exact hs
     · cases h;exact hs
 · split at h
   · cases h
   · split at h
     · split at h
       · cases h
       · split at h
         · cases h;exact hs
         · cases h;exact hs
     · cases h;exact hs
 · split at h
   · cases h
   · split at h
     · exact fin _ hs _ h
     · cases h;exact fun h=>by simp at h
 · rcases(by omega:turn=0∨turn=1∨turn=2) with rfl | rfl | rfl <;> simp only at h
   · split at h
     · cases h
     · cases h;exact fun _ h=>ztu h
   · split at h
     · cases h;exact fun _ h=>hs (by simp) h
     · cases h
   · split at h
     · cases h
     · split at h
       · cases h
       · split at h
         · exact fin ⟨3,vs,l++[(lo,hi)],ix++[x],0,frm,inner,0,lo,hi,tch⟩ (fun h=>by simp at h) _ h
         · cases h;exact fun h=>by simp at h
end
section
open Go.RowKit
attribute [local go_sem] yq
def lmV (L:za):Value:=.agg #[.int .i64 L.1,.int .i64 L.2.1,.int .i64 L.2.2.1,.int .i64 L.2.2.2.1,.int .i64 L.2.2.2.2]
def pkF (g:Nat):Nat→Value
 | 0=>.func (.func 189) #[.pointer (some ⟨g,0,none⟩)] #[]
 | 1=>.func (.func 231) #[.pointer (some ⟨g,0,none⟩)] #[]
 | 2=>.func (.func 260) #[.pointer (some ⟨g,0,none⟩)] #[]
 | 3=>.func (.func 273) #[.pointer (some ⟨g,0,none⟩)] #[]
 | 4=>.func (.func 299) #[.pointer (some ⟨g,0,none⟩)] #[]
 | 5=>.func (.func 303) #[.pointer (some ⟨g,0,none⟩)] #[]
 | _=>.nilFunc
def pkC (L:za) (nx V:Value) (e h:Nat) (cu:Value):List Value:=
 [.int .i64 L.1,.int .i64 L.2.1,.int .i64 L.2.2.1,.int .i64 L.2.2.2.1,.int .i64 L.2.2.2.2,nx,.nilIface,V,.int .u64 (e:Int),.int .u64 (h:Int),cu]
def CuAt (w:World) (base:Nat) (cu:Value) (lo:Option Nat) (h:List Iv):Prop:=∃c x,cu=.pointer (some ⟨c,0,none⟩)∧base≤c∧(∀y,lo=some y→x=y)∧Row w c 193 (qk c 1 x h.getLast? lo.isSome)
theorem CuAt.grown {w w':World} {base g:Nat} {cu:Value} {lo:Option Nat} {h:List Iv} {T:TypeId} {C:List Value} (hc:CuAt w base cu lo h) (hR:Row w g T C) (hT:T≠193) (hg:w.grownBy w' (some g)):CuAt w' base cu lo h:=by
 obtain⟨c,x,h1,h2,h3,h4⟩:=hc;exact⟨c,x,h1,h2,h3,h4.grown hg fun e=>by injection e with e;exact hR.ne h4 hT e.symm⟩
theorem CuAt.later {w w':World} {base:Nat} {cu:Value} {lo:Option Nat} {h:List Iv} (hc:CuAt w base cu lo h) (hb:Below w.heap.size w w'):CuAt w' base cu lo h:=by
 obtain⟨c,x,h1,h2,h3,h4⟩:=hc;exact⟨c,x,h1,h2,h3,h4.later hb⟩
def PkB (w:World) (base:Nat) (s:PS) (V cu:Value):Prop:=
 match s.tag with
 | 0=>V=.slice none 0 0
 | 1=>OwnV w base V s.v
 | 2=>EntO w base V s.v s.rep 0 []
 | 3=>EntO w base V s.v s.rep s.mx []
 | 4=>EntO w base V s.v s.rep s.mx s.h∧CuAt w base cu none s.h
 | 5=>EntO w base V s.v s.rep s.mx s.h∧CuAt w base cu (some s.lo) s.h
 | _=>OwnV w base V s.v
theorem PkB.later {w w':World} {base:Nat} {s:PS} {V cu:Value} (h:PkB w base s V cu) (hb:Below w.heap.size w w'):PkB w' base s V cu:=by
 unfold PkB at h ⊢;split at h
 · exact h
 · exact h.below hb
 · exact h.later hb
 · exact h.later hb
 · exact⟨h.1.later hb,h.2.later hb⟩
 · exact⟨h.1.later hb,h.2.later hb⟩
 · exact h.below hb
theorem PkB.grown {w w':World} {base g:Nat} {s:PS} {V cu:Value} {C:List Value} (h:PkB w base s V cu) (hR:Row w g 282 C) (hg:w.grownBy w' (some g)):PkB w' base s V cu:=by
 have hN:NotT w g:=hR.notT (by rintro(h | h | h) <;> cases h);unfold PkB at h ⊢;split at h
 · exact h
 · exact h.grown hN hg
 · exact h.grown hN hg
 · exact h.grown hN hg
 · exact⟨h.1.grown hN hg,h.2.grown hR (by decide) hg⟩
 · exact⟨h.1.grown hN hg,h.2.grown hR (by decide) hg⟩
 · exact h.grown hN hg
def PkR (w:World) (base g:Nat) (L:za) (nx:Value) (s:PS):Prop:=base≤g∧∃V cu,Row w g 282 (pkC L nx V s.ents s.hls cu)∧PkB w base s V cu
theorem PkR.later {w w':World} {base g:Nat} {L:za} {nx:Value} {s:PS} (h:PkR w base g L nx s) (hb:Below w.heap.size w w'):PkR w' base g L nx s:=by
 obtain⟨h1,V,cu,h2,h3⟩:=h;exact⟨h1,V,cu,h2.later hb,h3.later hb⟩
def PkS (w:World) (base g:Nat) (L:za) (r:Except Nat PS) (e:Ending) (w':World):Prop:=
 Below base w w'∧match r with
 | .error c=>e=.returned (.tuple #[.nilFunc,.iface 35 (.int .i64 (c:Int))])∧∃C,Row w' g 282 C∧C.length=11
 | .ok s'=>∃nx,e=.returned (.tuple #[pkF g s'.tag,.nilIface])∧PkR w' base g L nx s'
def zda (c:Nat):Value:=if c=0 then .nilIface else .iface 35 (.int .i64 (c:Int))
def I64 (l:Int):Prop:= -9223372036854775808≤l∧l≤9223372036854775807
structure LimsI (L:za):Prop where
 a:I64 L.1
 b:I64 L.2.1
 c:I64 L.2.2.1
 d:I64 L.2.2.2.1
 e:I64 L.2.2.2.2
theorem zly (x:Nat) (lim:Int) (rest:Nat):(max lim 0<(x:Int)∧zo x lim rest=7)∨(¬max lim 0<(x:Int)∧rest<x∧zo x lim rest=5)∨(¬max lim 0<(x:Int)∧¬rest<x∧zo x lim rest=0):=by
 unfold zo;by_cases h1:max lim 0<(x:Int)
 · left;refine⟨h1,if_pos ?_⟩;omega
 · by_cases h2:rest<x
   · right;left;refine⟨h1,h2,?_⟩;rw[if_neg (by omega),if_pos h2]
   · right;right;refine⟨h1,h2,?_⟩;rw[if_neg (by omega),if_neg h2]
theorem zlz (x:Nat) (lim:Int) (rest:Nat) (w:World) (hx:x<18446744073709551616) (hl:I64 lim) (hr:rest<9223372036854775808):
 Calls Tryz.prog 230 #[.int .u64 (x:Int),.int .i64 lim,.int .i64 (rest:Int)] w fun e w'=>e=.returned (zda (zo x lim rest))∧w=w':=by
 have hc:=zly x lim rest;obtain⟨l1,l2⟩:=hl;generalize zo x lim rest=c at*;have Hx:=hid hx;clear hx;by_cases hneg:lim<0
 · have e0:max lim 0=0:=by omega
   rw[e0] at hc;clear e0;rcases hc with ⟨h1,rfl⟩ | ⟨h1,h2,rfl⟩ | ⟨h1,h2,rfl⟩
   · have h1':0<x:=by omega
     clear h1;go_enter Tryz.func230,Tryz.ntmps230;go_wp2_with fail;go_ret;exact⟨rfl,rfl⟩
   · have h1':x=0:=by omega
     omega
   · obtain rfl:x=0:=by omega
     go_enter Tryz.func230,Tryz.ntmps230;go_wp2_with fail;go_ret;exact⟨rfl,rfl⟩
 · obtain⟨m,rfl⟩:=Int.eq_ofNat_of_zero_le (show 0≤lim by omega);have e0:max (m:Int) 0=(m:Int):=by omega
   rw[e0] at hc;clear e0;rcases hc with ⟨h1,rfl⟩ | ⟨h1,h2,rfl⟩ | ⟨h1,h2,rfl⟩
   · have h1':m<x:=by omega
     clear h1;go_enter Tryz.func230,Tryz.ntmps230;go_wp2_with fail;go_ret;exact⟨rfl,rfl⟩
   · have h1':¬m<x:=by omega
     clear h1;go_enter Tryz.func230,Tryz.ntmps230;go_wp2_with fail;go_ret;exact⟨rfl,rfl⟩
   · have h1':¬m<x:=by omega
     clear h1;go_enter Tryz.func230,Tryz.ntmps230;go_wp2_with fail;go_ret;exact⟨rfl,rfl⟩
end
section
open Go.RowKit
def zbl:Nat→Value:=fun _=>.slice none 0 0
def KV (w:World) (base:Nat) (K:Value) (vs:List Vec):Prop:=
 ∃Y,w.ownsRow base 97 2 K vs.length (vb vs.length zbl Y)∧∀i,i<vs.length→EnSl w 0 (Y i) (yr vs i)
theorem zl0 (w:World) (base:Nat):KV w base (.slice none 0 0) []:=⟨zbl,World.ownsRow_nil _ _ _ _,fun i h=>by simp at h⟩
theorem KV.steady {w w':World} {base:Nat} {K:Value} {vs:List Vec} (h:KV w base K vs) (hs:Steady 0 yz w w'):KV w' base K vs:=by
 obtain⟨Y,h1,h2⟩:=h;exact⟨Y,zav h1 hs (.inr (.inr rfl)),fun i hi=>(h2 i hi).steady hs (.inl rfl) (.inr (.inl rfl))⟩
theorem KV.grown {w w':World} {base g:Nat} {K:Value} {vs:List Vec} (h:KV w base K vs) (hN:NotT w g) (hg:w.grownBy w' (some g)):KV w' base K vs:=h.steady (zb1 hN (Nat.zero_le _) hg)
theorem KV.later {w w':World} {base:Nat} {K:Value} {vs:List Vec} (h:KV w base K vs) (hb:Below w.heap.size w w'):KV w' base K vs:=h.steady (.of_below hb)
theorem KV.below {w w':World} {base n:Nat} {K:Value} {vs:List Vec} (h:KV w base K vs) (hn:n=w.heap.size) (hb:Below n w w'):KV w' base K vs:=h.later (hn ▸ hb)
theorem ztw {vs:List Vec} {v:Vec} {i:Nat} (h:i<vs.length):yr (vs++[v]) i=yr vs i:=by simp[yr,List.getElem?_append_left h]
theorem ztx (vs:List Vec) (v:Vec):yr (vs++[v]) vs.length=v:=by simp[yr]
theorem zty {n:Nat} (X Y:Nat→Value) (y:Value):vb n X (upd Y n y)=vb n X Y:=by
 unfold vb;congr 1;refine List.map_congr_left fun i hi=>?_
 rw[kp _ _ (Nat.ne_of_lt (List.mem_range.1 hi))]
theorem KV.snoc {w:World} {base:Nat} {K:Value} {vs:List Vec} (hK:KV w base K vs) {y:Value} {v:Vec} (hv:EnSl w 0 y v) (A:Option Addr) (c:Nat) (hr:Rd w 2 A 1 [.slice none 0 0,y]) (hb:vs.length+1≤1000000000000) (hbase:base≤w.heap.size):
 ∃K' w',(Builtin.append_ #[27,27] 27 #[K,.slice A 1 c]).run Tryz.prog w=.ok K' w'∧KV w' base K' (vs++[v])∧w.grownBy w' K.ownBlock∧(∀k,K.ownBlock=some k→base≤k):=by
 obtain⟨Y,ho,hY⟩:=hK
 have hy1:y.oneCell'=true:=by
  obtain⟨a,n,d,rfl,-⟩:=hv
  rfl
 obtain⟨K',w',h1,h2,h3⟩:=zbu base _ _ _ _ 2 48 Tryz.underlying27 Tryz.info_frg rfl (by omega) K vs.length _ ho A 1 c _ hr (by
  intro u hu;simp only[List.mem_cons,List.not_mem_nil,or_false] at hu;rcases hu with rfl | rfl
  · rfl
  · exact hy1) (by unfold maxLen;omega) (by omega) hbase
 have hs:Steady 0 za7 w w':=(Steady.grown (base:=base) ho h3 (by rintro(h | h) <;> cases h)).lower (Nat.zero_le _);refine⟨K',w',h1,⟨upd Y vs.length y,?_,fun i hi=>?_⟩,h3,fun k hk=>(ho.lt k hk).1⟩
 · rw[List.length_append];show w'.ownsRow base 97 2 K' (vs.length+1) (vb (vs.length+1) zbl (upd Y vs.length y));rw[zsu,zty,zan];exact h2
 · by_cases e:i=vs.length
   · subst e;rw[zan,ztx];exact hv.steady hs (.inl rfl) (.inr rfl)
   · have hi':i<vs.length:=by simp at hi;omega
     rw[kp _ _ e,ztw hi'];exact(hY i hi').steady hs (.inl rfl) (.inr rfl)
theorem KV.at {w:World} {base:Nat} {K:Value} {vs:List Vec} (hK:KV w base K vs) {i:Nat} (hi:i<vs.length):∃g cap,K=.slice (some ⟨g,0,none⟩) vs.length cap∧base≤g∧g<w.heap.size∧∃y,w.cell? ⟨g,i*2+1,none⟩=some y∧w.cell? ⟨g,i*2,none⟩=some (.slice none 0 0)∧EnSl w 0 y (yr vs i):=by
 obtain⟨Y,ho,hY⟩:=hK;obtain⟨g,cap,rfl,hg,hgl,-,-⟩:=zbi ho (by omega);obtain⟨e1,e2⟩:=zbk hi zbl Y;have c1:=ho.cells (g:=g) rfl _ _ e1;have c2:=ho.cells (g:=g) rfl _ _ e2;rw[qi,Nat.zero_add] at c1 c2;exact⟨g,cap,rfl,hg,hgl,Y i,c2,c1,hY i hi⟩
def SegM (w:World) (base:Nat) (K:Value) (vs:List Vec) (l:List Iv) (ix:List Nat):Prop:=
 ∃w2 X Y,base≤w2.heap.size∧Steady 0 za7 w2 w∧(∀i,i<vs.length→EnSl w2 0 (Y i) (yr vs i))∧w.ownsRow base 97 2 K vs.length (vb vs.length X Y)∧
  (∀i,i<vs.length→w.ownsRow w2.heap.size 89 2 (X i) (itN l ix i).length (ivC (itN l ix i)))∧∀i,i<vs.length→∀j,j<vs.length→i≠j→∀b,(X i).ownBlock=some b→(X j).ownBlock≠some b
theorem KV.seg {w:World} {base:Nat} {K:Value} {vs:List Vec} (h:KV w base K vs) (hb:base≤w.heap.size):SegM w base K vs [] []:=by
 obtain⟨Y,h1,h2⟩:=h;exact⟨w,zbl,Y,hb,⟨Nat.le_refl _,fun _ _ _=>rfl⟩,h2,h1,fun i hi=>World.ownsRow_nil _ _ _ _,fun i hi j hj _ b hb=>by simp[zbl,Value.ownBlock] at hb⟩
theorem SegM.steady {w w':World} {base:Nat} {K:Value} {vs:List Vec} {l:List Iv} {ix:List Nat} (h:SegM w base K vs l ix) (hs:Steady 0 yz w w'):SegM w' base K vs l ix:=by
 obtain⟨w2,X,Y,h1,h2,h3,h4,h5,h6⟩:=h;exact⟨w2,X,Y,h1,h2.trans (hs.weak fun T hT=>hT.imp id .inl),h3,zav h4 hs (.inr (.inr rfl)),fun i hi=>zav (h5 i hi) hs (.inl rfl),h6⟩
theorem SegM.grown {w w':World} {base g:Nat} {K:Value} {vs:List Vec} {l:List Iv} {ix:List Nat} (h:SegM w base K vs l ix) (hN:NotT w g) (hg:w.grownBy w' (some g)):SegM w' base K vs l ix:=h.steady (zb1 hN (Nat.zero_le _) hg)
theorem SegM.later {w w':World} {base:Nat} {K:Value} {vs:List Vec} {l:List Iv} {ix:List Nat} (h:SegM w base K vs l ix) (hb:Below w.heap.size w w'):SegM w' base K vs l ix:=h.steady (.of_below hb)
theorem SegM.at {w:World} {base:Nat} {K:Value} {vs:List Vec} {l:List Iv} {ix:List Nat} (h:SegM w base K vs l ix) {i:Nat} (hi:i<vs.length):∃g cap,K=.slice (some ⟨g,0,none⟩) vs.length cap∧base≤g∧g<w.heap.size∧(∀j,w.frozen? ⟨g,j,none⟩=false)∧∃x,w.cell? ⟨g,i*2,none⟩=some x:=by
 obtain⟨w2,X,Y,h1,h2,h3,h4,h5,h6⟩:=h;obtain⟨g,cap,rfl,hg,hgl,-,-⟩:=zbi h4 (by omega);have c1:=h4.cells (g:=g) rfl _ _ (zbk hi X Y).1;rw[qi,Nat.zero_add] at c1;exact⟨g,cap,rfl,hg,hgl,fun j=>h4.frozenAt j,X i,c1⟩
theorem SegM.put {w:World} {base g cap:Nat} {vs:List Vec} {l:List Iv} {ix:List Nat} (h:SegM w base (.slice (some ⟨g,0,none⟩) vs.length cap) vs l ix) (hli:ix.length=l.length) {i:Nat} (hi:i<vs.length) {S:Value} (hS:w.cell? ⟨g,i*2,none⟩=some S) (s:Iv)
 (W:World) (hW:Below w.heap.size w W) (A:Option Addr) (c:Nat) (hr:Rd W 2 A 1 (ivC [s])) (hb:l.length+1≤1000000000000):
 ∃S' w',(Builtin.append_ #[91,91] 91 #[S,.slice A 1 c]).run Tryz.prog W=.ok S' w'∧(∃gS m cS,S'=.slice (some ⟨gS,0,none⟩) m cS)∧W.grownBy w' S.ownBlock∧(∀k,S.ownBlock=some k→base≤k∧∃C fr,W.heap[k]?=some (.cells C 89 fr))∧w'.cell? ⟨g,i*2,none⟩=some S∧w'.frozen? ⟨g,i*2,none⟩=false∧
  ∀w2,w'.grownBy w2 none→SegM (w2.setCell ⟨g,i*2,none⟩ S') base (.slice (some ⟨g,0,none⟩) vs.length cap) vs (l++[s]) (ix++[i]):=by
 obtain⟨wz,X,Y,h1,h2,h3,h4,h5,h6⟩:=h
 have e0:X i=S:=by
  have c1:=h4.cells (g:=g) rfl _ _ (zbk hi X Y).1;rw[qi,Nat.zero_add,hS] at c1;injection c1 with c1;exact c1.symm
 subst e0;have k4:=yk h4 hW;have k5:=fun j hj=>yk (h5 j hj) hW
 have hz:wz.heap.size≤W.heap.size:=Nat.le_trans h2.size hW.size;have hit:(itN l ix i).length≤l.length:=zg8 _ _ _ _;obtain⟨S',w',hrun,ho,hg,hat⟩:=zfi wz.heap.size (X i) _ _ (k5 i hi) A c s hr (by omega) hz
 have hty:∀k,(X i).ownBlock=some k→∃C fr,W.heap[k]?=some (.cells C 89 fr):=fun k hk=>by
  rcases(k5 i hi).2 with ⟨e,_⟩ | ⟨b,cap',cur,e,_,hh,_⟩
  · rw[e] at hk;cases hk
  · have e':b=k:=by rw[e] at hk;simpa [Value.ownBlock] using hk
    subst e';exact⟨_,_,hh⟩
 have hne:(X i).ownBlock≠some g:=fun e=>zaj k4 (k5 i hi) (by decide) g rfl e
 have e4:w'.ownsRow base 97 2 (.slice (some ⟨g,0,none⟩) vs.length cap) vs.length (vb vs.length X Y):=yj k4 fun k hk=>by
  have e:g=k:=by simpa [Value.ownBlock] using hk
  subst e;exact hg.block g (k4.lt g rfl).2 fun e=>hne e.symm
 have hcell:w'.cell? ⟨g,i*2,none⟩=some (X i):=by
  have c1:=e4.cells (g:=g) rfl _ _ (zbk hi X Y).1;rwa [qi,Nat.zero_add] at c1
 obtain⟨gS,cS,eS,-⟩:=zbi ho (Nat.succ_pos _);refine⟨S',w',hrun,⟨gS,_,cS,eS⟩,hg,fun k hk=>⟨Nat.le_trans h1 ((k5 i hi).lt k hk).1,hty k hk⟩,hcell,e4.frozenAt _,fun w2 hw2=>?_⟩;have f4:=yj (w':=w2) e4 fun k hk=>hw2.block k (e4.lt k hk).2 (by simp)
 have fS:=yj (w':=w2) ho fun k hk=>hw2.block k (ho.lt k hk).2 (by simp)
 obtain⟨p1,p2⟩:=f4.stored (i*2) S'
 have hrow:∃C fr,w2.heap[g]?=some (.cells C 97 fr):=by
  rcases f4.2 with ⟨h',_⟩ | ⟨g',cap',cur,h',_,hh,_⟩
  · cases h'
  · cases h';exact⟨_,_,hh⟩
 obtain⟨C,fr,hrow⟩:=hrow;have hset:∀k,k≠g→k<w2.heap.size→(w2.setCell ⟨g,i*2,none⟩ S').heap[k]?=w2.heap[k]?:=fun k hk hl=>p2.block k hl fun e=>hk (by injection e)
 have hst:Steady 0 za7 w2 (w2.setCell ⟨g,i*2,none⟩ S'):=.setCell hrow (Nat.zero_le _) (by rintro(h | h) <;> cases h)
 have hsWw:Steady 0 za7 wz w':=⟨Nat.le_trans hz hg.size,fun k hk hp=>by
  have hkW:k<W.heap.size:=Nat.lt_of_lt_of_le hk hz;have hkw:=Nat.lt_of_lt_of_le hk h2.size;rw[hg.block k hkW fun e=>by have:=((k5 i hi).lt k e.symm).1;omega,hW.block k hkw];exact h2.row k hk hp⟩
 refine⟨wz,upd X i S',Y,h1,(hsWw.trans (⟨hw2.size,fun k hk _=>hw2.block k hk (by simp)⟩:Steady 0 za7 w' w2)).trans hst,h3,?_,fun j hj=>?_,fun a ha b hb hab x hx=>?_⟩
 · rw[←zha hi];exact p1
 · by_cases e:j=i
   · subst e;rw[zan,zfk hli,if_pos rfl,List.length_append]
     exact yj fS fun k hk=>hset k (fun e=>by
      subst e;exact zaj f4 fS (by decide) k rfl hk) (fS.lt k hk).2
   · rw[kp _ _ e,zfk hli,if_neg (fun h=>e h.symm),List.append_nil];refine yj (h5 j hj) fun k hk=>?_
     have hl5:=(h5 j hj).lt k hk;have hkW:k<W.heap.size:=Nat.lt_of_lt_of_le hl5.2 hW.size;rw[hset k (fun e'=>by subst e';exact zaj h4 (h5 j hj) (by decide) k rfl hk) (Nat.lt_of_lt_of_le hkW (Nat.le_trans hg.size hw2.size)),hw2.block k (Nat.lt_of_lt_of_le hkW hg.size) (by simp),hg.block k hkW (fun e'=>h6 j hj i hi e k hk e'.symm),hW.block k hl5.2]
 · by_cases ea:a=i
   · subst ea;rw[zan] at hx;rw[kp _ _ (fun e=>hab e.symm)];intro hy;rcases hat x hx with h' | h'
     · exact h6 a ha b hb hab x h' hy
     · have:=((h5 b hb).lt x hy).2;have:=hW.size;omega
   · rw[kp _ _ ea] at hx;by_cases eb:b=i
     · subst eb;rw[zan];intro hy;rcases hat x hy with h' | h'
       · exact h6 a ha b hb hab x hx h'
       · have:=((h5 a ha).lt x hx).2;have:=hW.size;omega
     · rw[kp _ _ eb];exact h6 a ha b hb hab x hx
theorem SegM.frags {w:World} {base:Nat} {K:Value} {vs:List Vec} {l:List Iv} {ix:List Nat} (h:SegM w base K vs l ix) (hl:yi l):∃a c,K=.slice a vs.length c∧Frags w a vs.length c (zx vs l ix):=by
 obtain⟨wz,X,Y,h1,h2,h3,h4,h5,h6⟩:=h;have hlen:(zx vs l ix).length=vs.length:=by rw[zcj];simp
 have hnth:∀i,i<vs.length→zf (zx vs l ix) i=(itN l ix i,yr vs i):=fun i hi=>by
  rw[yw (by rw[hlen];exact hi)];simp[zcj]
 rcases Nat.eq_zero_or_pos vs.length with h0 | h0
 · obtain⟨a,c,rfl⟩:=jm h4;rcases h4.2 with ⟨h',-⟩ | ⟨g,cap,cur,h',hg,hh,hnc,hcm,_⟩
   · injection h' with e1 _ e3;subst e1 e3;refine⟨none,0,rfl,?_⟩;rw[h0] at hlen ⊢;rw[List.length_eq_zero_iff.1 hlen];exact zd2 w
   · injection h' with e1 _ e3;subst e1 e3;exact⟨_,_,rfl,hlen,hnc,by unfold maxLen at hcm;omega,(by intro e;cases e),fun hn=>by omega⟩
 · obtain⟨g,cap,rfl,hg,hgl,hnc,hcm⟩:=zbi h4 h0;refine⟨_,_,rfl,hlen,hnc,by unfold maxLen at hcm;omega,(by intro e;cases e),fun _=>⟨g,0,rfl,fun i hi=>?_⟩⟩;obtain⟨e1,e2⟩:=zbk hi X Y;have c1:=h4.cells (g:=g) rfl _ _ e1;have c2:=h4.cells (g:=g) rfl _ _ e2;rw[qi] at c1 c2;rw[hnth i hi];obtain⟨a,c,e,hI⟩:=zbs (h5 i hi) (fun t ht=>hl t (zk3 (Nat.le_refl _) ht));obtain⟨a',m',c',e',hE⟩:=(h3 i hi).steady h2 (.inl rfl) (.inr rfl);rw[e] at c1;rw[e'] at c2;exact⟨⟨a,_,c,c1,hI⟩,⟨a',m',c',by rw[Nat.add_assoc];exact c2,hE.ents⟩⟩
theorem SegM.len {w:World} {base:Nat} {K:Value} {vs:List Vec} {l:List Iv} {ix:List Nat} (h:SegM w base K vs l ix):∃a c,K=.slice a vs.length c:=by
 obtain⟨wz,X,Y,h1,h2,h3,h4,h5,h6⟩:=h;exact jm h4
theorem KV.len {w:World} {base:Nat} {K:Value} {vs:List Vec} (h:KV w base K vs):∃a c,K=.slice a vs.length c:=by
 obtain⟨Y,h4,-⟩:=h;exact jm h4
theorem OwnV.enSl {w:World} {base:Nat} {V:Value} {v:Vec} (h:OwnV w base V v) (hl:LtV v):EnSl w 0 V v:=by
 obtain⟨a,c,rfl,hE⟩:=h.entsT (base':=0) hl;exact⟨a,_,c,rfl,hE⟩
theorem ztz (w:World):Calls Tryz.prog 174 #[.slice none 0 0] w fun e w'=>e=.returned (.slice none 0 0)∧Below w.heap.size w w':=by
 go_enter Tryz.func174,Tryz.ntmps174;go_wp2_with fail;refine(zs9 _).mono ?_;rintro e w1 ⟨⟨y,rfl,ho⟩,hb1⟩;obtain⟨ya,yc,rfl⟩:=jm ho;obtain⟨g,rfl,hg,hc1,hcell⟩:=zql ho (by omega);have hcell0:w1.cell? ⟨g,0,none⟩=some (.int .u64 0):=hcell 0 (by omega);have Hb1:=hid hb1;have Hc:=hid hcell0;have Hg:=hid hg;clear ho hb1 hcell hcell0;go_wp2_with fail;go_loopw [3,12] (fun v i wr=>∃k:Nat,k≤1∧v=.slice none 0 0∧i=.int .i64 k∧Hid (Below w.heap.size w wr)∧Hid (wr.cell? ⟨g,0,none⟩=some (.int .u64 0))) (fun _ i _=>1 - (intOf i).toNat)
 case atStart=>exact⟨0,by omega,rfl,rfl,Hb1,Hc⟩
 case round=>
  obtain⟨k,hk,rfl,rfl,hb,hc⟩:=hrel;rcases(by omega:k=0∨k=1) with rfl | rfl
  · have hcc:=hc.out;go_wp2_with fail;refine(zs7 0 _).mono ?_;rintro e w2 ⟨⟨ma,mc,rfl⟩,hb2⟩;have Hb2:=hid (hb.out.trans (hb2.mono hb.out.size));have Hc2:=hid ((hb2.cell (p:=⟨g,0,none⟩) (zd hcc)).trans hcc);clear hb2 hcc;go_wp2_with fail;go_roundw
    case rel=>exact⟨1,by omega,rfl,rfl,Hb2,Hc2⟩
    case measure=>simp[intOf]
  · go_wp2_with fail;go_ret;exact⟨rfl,hb.out⟩
theorem zt0 (w:World):Calls Tryz.prog 127 #[.slice none 0 0] w fun e w'=>e=.returned (.slice none 0 0)∧Below w.heap.size w w':=by
 go_enter Tryz.func127,Tryz.ntmps127;go_wp2_with fail;refine(ztz _).mono ?_;rintro e w1 ⟨rfl,hb1⟩;have Hb1:=hid hb1;clear hb1;go_wp2_with fail;go_loopw [3,9] (fun v i wr=>v=.slice none 0 0∧i=.int .i64 0∧wr=w1) (fun _ _ _=>0)
 case atStart=>exact⟨rfl,rfl,rfl⟩
 case round=>
  obtain⟨rfl,rfl,rfl⟩:=hrel;go_wp2_with fail;go_ret;exact⟨rfl,Hb1.out⟩
theorem zt1 (w:World):Calls Tryz.prog 126 #[.slice none 0 0] w fun e w'=>e=.returned (.slice none 0 0)∧Below w.heap.size w w':=by
 go_enter Tryz.func126,Tryz.ntmps126;go_wp2_with fail;go_loopw [11] (fun i wr=>i=.int .i64 0∧Hid (Below w.heap.size w wr)∧Hid (wr.cell? ⟨w.heap.size,0,none⟩=some (.slice none 0 0))) (fun _ _=>0)
 case atStart=>exact⟨rfl,hid ((Below.refl _ _).alloc (Nat.le_refl _) _),hid ((yo w _ [.slice none 0 0]).cell 0 rfl)⟩
 case round=>
  obtain⟨rfl,hb,hc⟩:=hrel;have c0:=hc.out;go_wp2_with fail;go_ret;exact⟨rfl,hb.out⟩
theorem zt2 (w:World):Calls Tryz.prog 86 #[.slice none 0 0] w fun e w'=>e=.returned (.slice none 0 0)∧Below w.heap.size w w':=by
 go_enter Tryz.func86,Tryz.ntmps86;go_wp2_with fail;refine(zt0 _).mono ?_;rintro e w1 ⟨rfl,hb1⟩;have Hb1:=hid hb1;clear hb1;go_wp2_with fail;refine(zt1 _).mono ?_;rintro e w2 ⟨rfl,hb2⟩;have Hb2:=hid (Hb1.out.trans (hb2.mono Hb1.out.size));clear hb2;go_wp2_with fail;go_ret;exact⟨rfl,Hb2.out⟩
theorem zt3 (x f:Value) (w:World):Calls Tryz.prog 216 #[x,.int .i64 0,.int .i64 0,f] w fun e w'=>e=.returned (.tuple #[])∧w'=w:=by
 go_enter Tryz.func216,Tryz.ntmps216;go_wp2;go_loopw [8,9] (fun i _ wr=>i=.int .i64 1∧wr=w) (fun _ _ _=>0)
 case atStart=>exact⟨rfl,rfl⟩
 case round=>
  obtain⟨rfl,rfl⟩:=hrel;go_wp2;go_end0
  exact⟨rfl,rfl⟩
theorem zt4 (x l f:Value) (w:World):Calls Tryz.prog 176 #[x,.int .i64 0,.int .i64 0,l,f] w fun e w'=>e=.returned (.tuple #[])∧w'=w:=by
 go_enter Tryz.func176,Tryz.ntmps176;go_wp2;go_loopw [1,2,3,10,11,12,13,14,15,16,17,18,19,20] (fun a b _ _ _ _ _ _ _ _ _ _ _ _ wr=>a=.int .i64 0∧b=.int .i64 0∧wr=w) (fun _ _ _ _ _ _ _ _ _ _ _ _ _ _ _=>0)
 case atStart=>exact⟨rfl,rfl,rfl⟩
 case round=>
  obtain⟨rfl,rfl,rfl⟩:=hrel;go_wp2_with (go_at_call 216;refine(zt3 _ _ _).mono ?_;rintro e w' ⟨rfl,rfl⟩);exact bodyPost_ret (results_none rfl _ _ _) rfl ⟨rfl,rfl⟩
theorem zt5 (f:Value) (w:World):Calls Tryz.prog 129 #[.slice none 0 0,f] w fun e w'=>e=.returned (.tuple #[])∧w'=w:=by
 have Hl:=hid (fun w=>Tryz.bits_Len (0:Int) w (by omega) (by omega));have wr:IntKind.u64.wrap (0:Int)=0:=rfl;go_enter Tryz.func129,Tryz.ntmps129;go_wp2_with (first | (go_at_call 177;refine(Hl.out _).mono ?_;rintro e w' ⟨rfl,rfl⟩) | (go_at_call 176;refine(zt4 _ _ _ _).mono ?_;rintro e w' ⟨rfl,rfl⟩));go_end0
 exact⟨rfl,rfl⟩
set_option maxRecDepth 20000 in
theorem zt6 (w:World):Calls Tryz.prog 89 #[.slice none 0 0] w fun e w'=>(∃a c,e=.returned (.tuple #[.slice none 0 0,.slice a 0 c]))∧Below w.heap.size w w':=by
 go_enter Tryz.func89,Tryz.ntmps89;go_wp2_with fail;go_loopw [4,12] (fun v i wr=>v=.slice none 0 0∧i=.int .i64 0∧wr=w) (fun _ _ _=>0)
 case atStart=>exact⟨rfl,rfl,rfl⟩
 case round=>
  obtain⟨rfl,rfl,rfl⟩:=hrel;go_wp2_with fail;refine(zt5 _ _).mono ?_;rintro e w1 ⟨rfl,rfl⟩;obtain⟨w4,hr4,-,hb4⟩:=zro w1 w1.heap.size 0 (by omega) (Nat.le_refl _);have hr5:(Instr.makeSlice 60 (.int .i64 0) (.int .i64 0)).run Tryz.prog w1=.ok (.slice (some ⟨w1.heap.size,0,none⟩) 0 0) w4:=hr4;have Hb4:=hid hb4;clear hr4 hb4;go_wp2_with fail;clear hr5;go_loopw [8,28] (fun v i wr=>i=.int .i64 0∧wr=w4) (fun _ _ _=>0)
  case atStart=>exact⟨rfl,rfl⟩
  case round=>
   obtain⟨rfl,rfl⟩:=hrel;go_wp2_with fail;go_ret2;exact⟨⟨_,_,rfl⟩,Hb4.out⟩
set_option maxRecDepth 20000 in
theorem zt7 (w:World) (hD:Door w):Calls Tryz.prog 54 #[.slice none 0 0] w fun e w'=>(∃v,e=.returned (.tuple #[v,.nilIface])∧w'.ownsRow w.heap.size 5 1 v 2 (u8s [0,0]))∧Below w.heap.size w w':=by
 have HC:=hid (zs1 none 0 0 [] w (zd2 w) hD);have hv0:yf 0=[0]:=rfl;clear hD;go_enter Tryz.func54,Tryz.ntmps54;go_wp2_with fail;refine HC.out.mono ?_;rintro e w1 ⟨rfl,hb1⟩;have Hb1:=hid hb1;have hck:yh (vw (ckF []))=.nilIface:=rfl;rw[hck];clear hb1 hck;go_wp2_with fail;refine(zt2 _).mono ?_;rintro e w2 ⟨rfl,hb2⟩;have Hb2:=hid (Hb1.out.trans (hb2.mono Hb1.out.size));clear hb2;go_wp2_with fail;refine(zje (.slice none 0 0) 0 w.heap.size [] 0 w2 (by omega) (World.ownsRow_nil _ _ _ _) Hb2.out.size (by omega)).mono ?_;rintro e w3 ⟨v3,rfl,ho3,hb3⟩;have Ho3:=hid (show w3.ownsRow w.heap.size 5 1 v3 1 (u8s [0]) from ho3);have Hb3:=hid (Hb2.out.trans hb3);clear ho3 hb3;go_wp2_with fail;go_loopw [6,29] (fun v i wr=>v=v3∧i=.int .i64 0∧wr=w3) (fun _ _ _=>0)
 case atStart=>exact⟨rfl,rfl,rfl⟩
 case round=>
  obtain⟨rfl,rfl,rfl⟩:=hrel;go_wp2_with fail;refine(zt6 _).mono ?_;rintro e w4 ⟨⟨sa,sc,rfl⟩,hb4⟩;have Ho4:=hid (yk Ho3.out hb4);have Hb4:=hid (Hb3.out.trans (hb4.mono Hb3.out.size));clear hb4;go_wp2_with fail;refine(ztn none 0 0 0 [] w4 (zgh _) (by first | trivial | (intro i hi;simp at hi) | simp[zaf] | decide) (by omega) (by omega)).mono ?_;rintro e w5 ⟨⟨v5,rfl,ho5⟩,hb5⟩;obtain⟨da,dc,rfl⟩:=jm ho5;have Ho5:=hid (yk Ho4.out hb5);have Hb5:=hid (Hb4.out.trans (hb5.mono Hb4.out.size));clear hb5 ho5;go_wp2_with fail;refine(zje _ 1 w.heap.size _ 0 w5 (by omega) Ho5.out Hb5.out.size (by omega)).mono ?_;rintro e w6 ⟨v6,rfl,ho6,hb6⟩;have Ho6:=hid (show w6.ownsRow w.heap.size 5 1 v6 2 (u8s [0,0]) from ho6);have Hb6:=hid (Hb5.out.trans hb6);clear ho6 hb6;go_wp2_with fail;go_loopw [6,55] (fun v i wr=>v=v6∧i=.int .i64 0∧wr=w6) (fun _ _ _=>0)
  case atStart=>exact⟨rfl,rfl,rfl⟩
  case round=>
   obtain⟨rfl,rfl,rfl⟩:=hrel;go_wp2_with fail;go_ret2;exact⟨⟨_,rfl,Ho6.out⟩,Hb6.out⟩
