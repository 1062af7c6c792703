/- Part 33. -/
import Derived.Test.YtdnipikdddfhfaaGreatDoorWd32
set_option linter.unusedVariables false
set_option maxHeartbeats 16000000
namespace Go.Proofs.YtdnipikdddfhfaaGreatDoor
open Lib (hid)
section
def zac {α:Type} (E:Nat) (a:RR α):Prop:=match a with | .error e=>e.2≤E∧e.1≠0 | .ok y=>y.2≤E
structure TokE (T:zt) (E:Nat):Prop where
 ok:∀p x q,T p=.ok (x,q)→q≤E
 error:∀p c,T p=.error c→c≠0
theorem zar {α β:Type} {E:Nat} {a:RR α} {f:α→Nat→RR β} (h:zac E a) (hf:∀x q,q≤E→zac E (f x q)):zac E (thn a f):=by
 cases a with
 | error e=>exact h
 | ok y=>exact hf y.1 y.2 h
theorem zdk {α:Type} {E:Nat} {c:Prop} [Decidable c] {a b:RR α} (h1:zac E a) (h2:zac E b):zac E (if c then a else b):=by split <;> assumption
variable {T:zt} {E:Nat}
theorem zfc (h:TokE T E) {p:Nat} (hp:p≤E):zac E (nmP T p):=by
 unfold nmP
 cases hT:T p with
 | error c=>exact⟨hp,h.error p c hT⟩
 | ok y=>exact h.ok p y.1 y.2 hT
theorem zin (h:TokE T E) (lim:Int) {p:Nat} (hp:p≤E):zac E (yj T E lim p):=zar (zfc h hp) fun x q hq=>by
 split
 · exact hq
 · rename_i h1;exact⟨hp,h1⟩
theorem z4l (h:TokE T E) (lo:Nat) {q:Nat} (hq:q≤E):zac E (hiP T lo q):=zar (zfc h hq) fun x r hr=>zdk hr ⟨hq,by simp⟩
theorem z4m (lo:Nat) {q r:Nat} {s:Iv×Nat} (h:hiP T lo q=.ok (s,r)):s.2=q:=by
 unfold hiP at h;obtain⟨x,r',-,h2⟩:=j8 h;split at h2
 · cases h2;rfl
 · cases h2
theorem zs5 (h:TokE T E) (prev:Option Nat) (a:Nat) {p:Nat} (hp:p≤E):zac E (ivP T prev a p):=zar (zfc h hp) fun x q hq=>by
 cases loP prev a x with
 | none=>exact⟨hp,by simp⟩
 | some lo=>exact z4l h lo hq
theorem z4n (h:TokE T E) {prev:Option Nat} {a p r:Nat} {s:Iv×Nat} (hv:ivP T prev a p=.ok (s,r)):s.2≤E:=by
 unfold ivP at hv;obtain⟨x,q,h1,h2⟩:=j8 hv
 cases hlo:loP prev a x with
 | none=>rw[hlo] at h2;cases h2
 | some lo=>rw[hlo] at h2;rw[z4m lo h2];exact h.ok _ _ _ (zdg h1)
theorem z4o {α β:Type} {a:RR α} {f:α→Nat→RR β} (h:zac E a) (hf:∀x q,a=.ok (x,q)→q≤E→zac E (f x q)):zac E (thn a f):=by
 cases a with
 | error e=>exact h
 | ok y=>exact hf y.1 y.2 rfl h
theorem zs6 (h:TokE T E) (mx:Nat):∀n acc {p:Nat},p≤E→zac E (jb T mx n acc p)
 | 0,acc,p,hp=>hp
 | n+1,acc,p,hp=>by
   rw[jb];refine z4o (zs5 h _ _ hp) fun s q hs hq=>?_
   unfold zaw;exact zdk ⟨z4n h hs,by simp⟩ (zs6 h mx n _ hq)
theorem zs7 (h:TokE T E) (lim:Int):∀n acc {p:Nat},p≤E→zac E (qu T E lim n acc p)
 | 0,acc,p,hp=>hp
 | n+1,acc,p,hp=>by
   rw[qu];refine zar (zar (zfc h hp) fun x q hq=>?_) fun e q hq=>zs7 h lim n _ hq
   cases ko acc x with
   | none=>exact⟨hp,by simp⟩
   | some r=>exact zar (zfc h hq) fun mx q hq=>zar (zin h lim hq) fun n q hq=>zar (zs6 h mx n [] hq) fun _ _ hq=>hq
theorem zs8 (h:TokE T E) (le lh:Int):∀n acc {p:Nat},p≤E→zac E (jc T E le lh n acc p)
 | 0,acc,p,hp=>hp
 | n+1,acc,p,hp=>by
   rw[jc];refine zar (zar (zin h le hp) fun n q hq=>zdk ⟨hp,by simp⟩ (zs7 h lh n [] hq)) fun v q hq=>zdk ⟨hp,by simp⟩ (zs8 h le lh n _ hq)
theorem zs9 (h:TokE T E) (N:Nat):∀m l ix {p:Nat},p≤E→zac E (qv T N m l ix p)
 | 0,l,ix,p,hp=>hp
 | m+1,l,ix,p,hp=>by
   rw[qv];refine zar (zs5 h _ _ hp) fun s q hq=>zar (zfc h hq) fun x r hr=>zdk ⟨hq,by simp⟩ (zdk ⟨hq,by simp⟩ (zs9 h N m _ _ hr))
theorem zta (h:TokE T E) (L:zg) {p:Nat} (hp:p≤E):zac E (qm T E L p):=
 zar (zin h _ hp) fun n q hq=>zar (zs8 h _ _ n [] hq) fun vs q hq=>zar (zin h _ hq) fun m q hq=>zar (zs9 h _ m [] [] hq) fun s q hq=>zdk ⟨hq,by simp⟩ (zdk ⟨hq,by simp⟩ hq)
theorem z4p {l:List Nat} (hl:∀c∈l,c<256):Fwd (qn l):=fun p x q h=>(zcz hl h).1
theorem z4q {l:List Nat} (hl:∀c∈l,c<256):T64 (qn l):=fun p x q h=>(zcz hl h).2.2.1
theorem ztb {l:List Nat} (hl:∀c∈l,c<256):TokE (qn l) l.length:=⟨fun p x q h=>(zcz hl h).2.1,fun p c h=>by
 unfold qn at h;split at h
 · cases h
 · cases h;decide
 · cases h;decide⟩
def j9 (L:zg) (l:List Nat):RR Kno:=qm (qn l) l.length L 0
theorem ztc (ns:List Nat):∀c∈yq ns,c<256:=fun c hc=>by
 unfold yq at hc;obtain⟨x,-,hx⟩:=List.mem_flatMap.1 hc;exact ztt x c hx
theorem ztd {L:zg} {c:Kno} (hc:CanK c) (hK:EncK c) (t:List Nat) (ht:∀x∈t,x<256):
 (okK L c→j9 L (yq (qr c)++t)=if 0<t.length then .error (11,(yq (qr c)).length) else .ok (c,(yq (qr c)).length))∧(¬okK L c→∃w,j9 L (yq (qr c)++t)=.error (7,w)):=by
 have hl:∀x∈yq (qr c)++t,x<256:=fun x hx=>by
  rcases List.mem_append.1 hx with h | h
  · exact ztc _ x h
  · exact ht x h
 have hr:=zqv (l:=yq (qr c)++t) (ns:=qr c) (t:=t) (p:=0) (z3c hK) rfl;rw[Nat.zero_add] at hr;obtain⟨h1,h2⟩:=z3t (E:=(yq (qr c)++t).length) (L:=L) (z4p hl) hc hK.lt hr (by rw[List.length_append];omega);refine⟨fun h=>?_,h2⟩;unfold j9;rw[h1 h,List.length_append];by_cases h0:0<t.length
 · rw[if_pos h0,if_pos (by omega)]
 · rw[if_neg h0,if_neg (by omega)]
theorem z4r {L:zg} {l:List Nat} (hl:∀c∈l,c<256) {c:Kno} {q:Nat} (h:j9 L l=.ok (c,q)):CanK c∧LtK c∧okK L c∧yq (qr c)=l∧q=l.length:=by
 obtain⟨h1,h2,h3,h4,h5⟩:=z4e (z4q hl) h
 have hq:q=l.length:=by
  have:=zta (ztb hl) L (p:=0) (Nat.zero_le _);have e:qm (qn l) l.length L 0=.ok (c,q):=h;rw[e] at this;exact Nat.le_antisymm this h5
 refine⟨h1,h2,h3,?_,hq⟩;have:=zqw hl h4;rw[hq,List.drop_length,List.append_nil] at this;exact this.symm
theorem zte {L:zg} {l:List Nat} (hl:∀c∈l,c<256) {e:Nat×Nat} (h:j9 L l=.error e):e.2≤l.length∧e.1≠0:=by
 have:=zta (ztb hl) L (p:=0) (Nat.zero_le _);have e':qm (qn l) l.length L 0=.error e:=h;rw[e'] at this;exact this
abbrev unl:zg:=(9223372036854775807,9223372036854775807,9223372036854775807,9223372036854775807,9223372036854775807)
theorem zio {n:Nat} (h:n≤100000):okC n 9223372036854775807:=.inl (by omega)
theorem z4s {c:Kno} (hK:EncK c):(zi c).length≤1000:=by
 have h2:=zh0 c c.length (Nat.le_refl _);rw[List.take_length] at h2;have:=hK.sum;unfold zi;omega
theorem ziq {c:Kno} (hK:EncK c):okK unl c:=
 ⟨zio (by have:=hK.len;omega),fun i hi=>⟨zio (by have:=(hK.vec _ (yx hi)).len;omega),fun j hj=>zio (by have:=(hK.vec _ (yx hi)).holes _ (kn hj);omega)⟩,zio (by have:=z4s hK;omega)⟩
theorem zlt {c:Kno} (hK:EncK c) {L:zg} (h:okK L c):j9 L (yq (qr c))=.ok (c,(yq (qr c)).length):=by
 have:=(ztd (L:=L) hK.can hK [] (fun x hx=>(by cases hx))).1 h;rw[List.append_nil] at this;exact this
theorem z5y {a b:Kno} (ka:EncK a) (kb:EncK b) (h:yq (qr a)=yq (qr b)):a=b:=by
 have h1:=zlt ka (ziq ka);have h2:=zlt kb (ziq kb);rw[h,h2] at h1;injection h1 with h1;injection h1 with h1 _;exact h1.symm
theorem ztf:∀(l:List Nat) (n j x:Nat),yg (l.take n) j x=yg l j x∨(yg (l.take n) j x).1=0
 | [],n,j,x=>by rw[List.take_nil];exact .inl rfl
 | c :: l,0,j,x=>.inr rfl
 | c :: l,n+1,j,x=>by
   rw[List.take_succ_cons,yg,yg];split
   · exact .inl rfl
   · split
     · exact .inl rfl
     · exact ztf l n _ _
theorem z4t (l:List Nat) (n p:Nat):qn (l.take n) p=qn l p∨qn (l.take n) p=.error 5:=by
 unfold qn;rw[List.drop_take];rcases ztf (l.drop p) (n - p) 0 0 with h | h
 · rw[h];exact .inl rfl
 · refine .inr ?_;generalize yg ((l.drop p).take (n - p)) 0 0=s at h;obtain⟨a,b,d⟩:=s;simp only at h;subst h
   rfl
theorem z5z {L:zg} {l:List Nat} (hl:∀c∈l,c<256) {c:Kno} {q n:Nat} (h:j9 L l=.ok (c,q)) (hn:n<l.length):∃w,j9 L (l.take n)=.error (5,w):=by
 obtain⟨-,-,-,-,hq⟩:=z4r hl h;have hl':∀c∈l.take n,c<256:=fun c hc=>hl c (List.mem_of_mem_take hc)
 have e:(l.take n).length=n:=by rw[List.length_take];omega
 have:=z3v (T:=qn l) (T':=qn (l.take n)) (E:=l.length) (E':=n) ⟨fun p=>z4t l n p,.inr ⟨rfl,by omega⟩⟩ (fun p x q h=>by have:=(zcz hl' h).2.1;omega) L (Nat.zero_le _) h (by omega);unfold j9;rw[e];exact this
end
section
open Go.RowKit
attribute [local go_sem] zad
structure ItemOut (base g i n cap:Nat) (vs:List Vec) (l:List Iv) (ix:List Nat) (W w':World) (gS m cS:Nat) (S:Value):Prop where
 below:Below base W w'
 cell:w'.cell? ⟨g,i*2,none⟩=some S
 frozen:w'.frozen? ⟨g,i*2,none⟩=false
 row:∀g' T C,Row W g' T C→T≠89→Row w' g' T C
 used:∀U ux,UsedM W U ux→UsedM w' U ux
 fin:SegM (w'.setCell ⟨g,i*2,none⟩ (.slice (some ⟨gS,0,none⟩) m cS)) base (.slice (some ⟨g,0,none⟩) n cap) vs l ix
theorem z4u {w W:World} {ops:Array Oper} {o:Oper} {a:Act} {K:Act→World→Prop} {Q:Exit→Act→World→Prop} {E:Prop} (hgd:o.guard=none) (s x:Operand)
 (ho:o.op=.call { callee:=.builtin .append,args:= #[s,x],argTypes:= #[91,91] }) (hty:o.type=91)
 {base g n cap:Nat} {vs:List Vec} {l:List Iv} {ix:List Nat} (hM:SegM w base (.slice (some ⟨g,0,none⟩) n cap) vs l ix) (hn:n=vs.length) (hli:ix.length=l.length) {i:Nat} (hi:i<n) {S:Value} (hS:w.cell? ⟨g,i*2,none⟩=some S) (t:Iv) (hW:Below w.heap.size w W) (hbw:base≤w.heap.size)
 (hs:a.eval s=S) (A:Option Addr) (c:Nat) (hx:a.eval x=.slice A 1 c) (hr:Rd W 2 A 1 (ivC [t])) (hb:l.length+1≤1000000000000)
 (hK:∀gS m cS w',ItemOut base g i n cap vs (l++[t]) (ix++[i]) w w' gS m cS S→K (a.put o.dst (.slice (some ⟨gS,0,none⟩) m cS)) w'):
 if Region.wanted o (yielded ops a.tmps)=true then Oper.wp Tryz.prog o a W K Q else E:=by
 subst hn;obtain⟨S',w',hrun,⟨gS,m,cS,rfl⟩,h5,h6,h3,h4,h7⟩:=hM.put hli hi hS t W hW A c hr hb;refine zfm hgd s x _ ho _ _ hs hx _ w' (by rw[hty];exact hrun) ?_;refine hK gS m cS w' ⟨?_,h3,h4,fun g' T C hR hT=>(hR.later hW).grown h5 fun e=>?_,fun U ux hU=>(hU.same (hW.block U hU.lt)).same (h5.block U (Nat.lt_of_lt_of_le hU.lt hW.size) fun e=>?_),h7 w' (jk _ _)⟩
 · exact(hW.mono hbw).grown h5 (Nat.le_trans hbw hW.size) fun k hk=>(h6 k hk).1
 · obtain⟨-,C',fr,hk⟩:=h6 g' e.symm;replace hR:=hR.later hW;unfold Row at hR;rw[hk] at hR;injection hR with hR;injection hR with _ hR _;exact hT hR.symm
 · obtain⟨-,C',fr,hk⟩:=h6 U e.symm;exact(hU.same (hW.block U hU.lt)).ne hk rfl
structure IRows (w w':World) (base R:Nat) (L:zg) (part K:Value) (U C B:Nat) (S Cu:List Value) (ux ix:List Nat) (vs:List Vec) (l:List Iv):Prop where
 below:Below base w w'
 row:Row w' R 130 (wkC L part K U C .nilIface)
 srow:Row w' B 204 S
 cur:Row w' C 193 Cu
 used:UsedM w' U ux
 seg:SegM w' base K vs l ix
theorem ItemOut.rows {w w':World} {base g i n cap gS m cS R U C B:Nat} {vs:List Vec} {l l':List Iv} {ix ix':List Nat} {Sv:Value} {L:zg} {part:Value} {S Cu:List Value} (h:ItemOut base g i n cap vs l' ix' w w' gS m cS Sv) (hS:SRows w base R L part (.slice (some ⟨g,0,none⟩) n cap) U C B S Cu ix vs l) (hg:base≤g):
 IRows w (w'.setCell ⟨g,i*2,none⟩ (.slice (some ⟨gS,0,none⟩) m cS)) base R L part (.slice (some ⟨g,0,none⟩) n cap) U C B S Cu ix ix' vs l':=by
 obtain⟨w2,X,Y,-,-,-,h4,-,-⟩:=hS.seg;have ne:∀{g' T C'},Row w g' T C'→T≠97→g'≠g:=fun hR hT e=>hR.ne_own h4 hT g rfl e.symm
 have hrow:∃C' fr,w.heap[g]?=some (.cells C' 97 fr):=by
  rcases h4.2 with ⟨h',_⟩ | ⟨g',cap',cur,h',_,hh,_⟩
  · cases h'
  · cases h';exact⟨_,_,hh⟩
 obtain⟨C',fr,hrow⟩:=hrow;refine⟨h.below.setCell (p:=⟨g,i*2,none⟩) hg _,(h.row _ _ _ hS.row (by decide)).other (a:=⟨g,i*2,none⟩) (ne hS.row (by decide)) _,(h.row _ _ _ hS.srow (by decide)).other (a:=⟨g,i*2,none⟩) (ne hS.srow (by decide)) _,(h.row _ _ _ hS.cur (by decide)).other (a:=⟨g,i*2,none⟩) (ne hS.cur (by decide)) _,(h.used _ _ hS.used).same (heap_setCell_other _ ⟨g,i*2,none⟩ U _ fun e=>?_),h.fin⟩;exact hS.used.ne hrow e
theorem IRows.map {w wc w':World} {base R U C B:Nat} {S Cu:List Value} {ux ix ix':List Nat} {vs:List Vec} {l:List Iv} {L:zg} {part K:Value} (h:IRows w wc base R L part K U C B S Cu ux ix vs l) (hu:UsedM w' U ix') (hg:wc.grownBy w' (some U)) (hi:ix=ix'):SRows w' base R L part K U C B S Cu ix' vs l:=by
 subst hi;have ne:∀{g T C'},Row wc g T C'→some g≠some U:=fun hR e=>by injection e with e;exact h.used.ne (show wc.heap[_]?=_ from hR) e.symm
 exact⟨h.row.grown hg (ne h.row),h.srow.grown hg (ne h.srow),h.cur.grown hg (ne h.cur),hu,h.seg.grown h.used.notT hg⟩
def zej (E:Nat) (s:WS) (p q x:Nat):Except (Nat×Nat) WS:=
 if s.vs.length≤x then .error (8,p) else if s.tch=true∧s.ix.getLast?=some x then .error (10,p) else
  if s.left=1 then k8 E { s with l:=s.l++[(s.lo,s.hi)],ix:=s.ix++[x],left:=0,turn:=0 } q
  else .ok { s with l:=s.l++[(s.lo,s.hi)],ix:=s.ix++[x],left:=s.left - 1,turn:=0 }
set_option maxRecDepth 100000 in
theorem z4v (base R:Nat) (L:zg) (s:WS) (K:Value) (U C B E x p q lo0:Nat) (last:Int) (touch:Bool) (w0 w:World) (ht:s.tag=3) (hR0:base≤R) (hU:base≤U) (hC:base≤C) (hB0:base≤B) (hb0:Below base w0 w)
 (hS:SRows w base R L (zaq B) K U C B (sgC s.left 2 last touch) (jj C 0 lo0 (some (s.lo,s.hi)) false) s.ix s.vs s.l) (hla:∀x,s.ix.getLast?=some x→last=(x:Int)) (hto:touch=s.tch) (htn:s.tch=true→s.ix≠[]) (hF:WFit s p) (hleft:0<s.left)
 (hx:x<18446744073709551616) (hq:q=p+(je x).length) (hqE:q≤E) (hE:q≤900000000000) (hrs:E - q<9223372036854775808):
 Calls Tryz.prog 113 #[.pointer (some ⟨R,0,none⟩),.pointer (some ⟨B,0,none⟩),.int .u64 (x:Int),.int .i64 (p:Int),.int .i64 ((E - q:Nat):Int)] w (WkS w0 base R L (zej E s p q x)):=by
 subst hto;obtain⟨ka,kc,hKe⟩:=hS.seg.len;subst hKe;obtain⟨n,hn⟩:∃n,n=s.vs.length:=⟨_,rfl⟩;have Hn:=hid hn;have q6:=hS.row.cell 6 rfl;have q8:=hS.row.cell 8 rfl;have v1:w.cell? ⟨B,1,none⟩=some (.int .i64 2):=hS.srow.cell 1 rfl;have v2:=hS.srow.cell 2 rfl;have v3:=hS.srow.cell 3 rfl;have hnl:n≤1000000000000:=by rw[hn];have:=hF.vsl;omega
 have hwn:IntKind.u64.wrap (n:Int)=(n:Int):=by rw[IntKind.wrap_u64];omega
 have Ht:=hid ht;have Hla:=hid hla;have Htn:=hid htn;have HF:=hid hF;have Hleft:=hid hleft;have HS:=hid hS;have Hb0:=hid hb0;have Hx:=hid hx;have Hq:=hid hq;have HqE:=hid hqE;have HE:=hid hE;have HRs:=hid hrs;have Hbw:=hid (show base≤w.heap.size by have:=hS.row.lt;omega);have HLa:=hid (zrc C 0 lo0 (some (s.lo,s.hi)) false w hS.cur);rw[←hn] at q6;clear ht hla htn hF hleft hS hb0 hx hq hE hrs hn;by_cases h8:n≤x
 · have Hv:=hid (show zej E s p q x=.error (8,p) from if_pos (by rw[←Hn.out];exact h8));have HN:=hid (fun W=>za9 (c:=8) (o:=p) (by decide) W);go_enter Tryz.func113,Tryz.ntmps113;go_wp2_with fail;refine(HN.out _).mono ?_;rintro e w' ⟨rfl,rfl⟩;go_wp2_with fail;go_ret;exact⟨Hb0.out,by rw[Hv.out];exact⟨rfl,_,HS.out.row,rfl⟩⟩
 · have hxn:x<n:=by omega
   have hwx:IntKind.i64.wrap (x:Int)=(x:Int):=by rw[IntKind.wrap_i64];omega
   by_cases h10:s.tch=true∧s.ix.getLast?=some x
   · have Hv:=hid (show zej E s p q x=.error (10,p) from by
      unfold zej;rw[if_neg (by rw[←Hn.out];exact h8),if_pos h10])
     have HN:=hid (fun W=>za9 (c:=10) (o:=p) (by decide) W);have hl:=Hla.out x h10.2;rw[hl] at v2;rw[h10.1] at v3;clear h10 hl h8;go_enter Tryz.func113,Tryz.ntmps113;go_wp2_with fail;refine(HN.out _).mono ?_;rintro e w' ⟨rfl,rfl⟩;go_wp2_with fail;go_ret;exact⟨Hb0.out,by rw[Hv.out];exact⟨rfl,_,HS.out.row,rfl⟩⟩
   · have hgd:(s.tch=false)∨(s.tch=true∧((x:Int) == last)=false):=by
      cases htc:s.tch with
      | false=>exact .inl rfl
      | true=>
       right;refine⟨rfl,?_⟩;rw[beq_eq_false_iff_ne];intro e;have hne:=Htn.out htc
       obtain⟨y,hy⟩:∃y,s.ix.getLast?=some y:=by
        cases hg:s.ix.getLast? with
        | none=>exact absurd (List.getLast?_eq_none_iff.1 hg) hne
        | some y=>exact⟨y,rfl⟩
       have:=Hla.out y hy;have hxy:x=y:=by omega
       exact h10 ⟨htc,by rw[hy,hxy]⟩
     have Hvv:=hid (show zej E s p q x=if s.left=1 then k8 E { s with l:=s.l++[(s.lo,s.hi)],ix:=s.ix++[x],left:=0,turn:=0 } q else .ok { s with l:=s.l++[(s.lo,s.hi)],ix:=s.ix++[x],left:=s.left - 1,turn:=0 } from by
      unfold zej;rw[if_neg (by rw[←Hn.out];exact h8),if_neg h10])
     obtain⟨gk,kcap,hke,hgk,hgkl,-,S,cS⟩:=HS.out.seg.at (i:=x) (by rw[←Hn.out];exact hxn);have hka:ka=some ⟨gk,0,none⟩:=by injection hke
     subst hka;have hkc:kc=kcap:=by injection hke
     subst hkc;simp only[ivV,Option.getD_some,Option.isSome_some] at HLa;have h0x:(0:Int)≤x:=by omega
     have h0n:(x:Int)<(n:Int):=by omega
     have Hgk:=hid hgk;clear h10 h8 hke hgk;have Hgd:=hid hgd;clear hgd;go_enter Tryz.func113,Tryz.ntmps113;go_upto_region 5 with fail
     go_cut [47] (fun v wc=>v=.bool false∧wc=w)
     case first=>
      rcases Hgd.out with hgd | ⟨hgd,hge⟩
      all_goals
       rw[hgd] at v3;clear hgd;go_wp2_with fail;go_meet
       exact⟨rfl,rfl⟩
     case rest=>
      obtain⟨rfl,rfl⟩:=hcut;clear Hgd;go_wp2_with fail;refine HLa.out.mono ?_;rintro e w1 ⟨rfl,hb1⟩;have hS1:=HS.out.later hb1;obtain⟨w2,hw2⟩:∃w2,w2=w1.alloc (.cells #[.int .u64 ((s.lo:Nat):Int),.int .u64 ((s.hi:Nat):Int)] 89):=⟨_,rfl⟩;have hb2:Below w1.heap.size w1 w2:=by rw[hw2];exact(Below.refl _ _).alloc (Nat.le_refl _) _
      have hX:Row w2 w1.heap.size 89 [.int .u64 ((s.lo:Nat):Int),.int .u64 ((s.hi:Nat):Int)]:=by rw[hw2];exact ju _ _ _
      have hS2:=hS1.later hb2;have x0:=hX.cell 0 rfl;have x1:=hX.cell 1 rfl;have p6:=hS2.row.cell 6 rfl;rw[←Hn.out] at p6;have cS2:w2.cell? ⟨gk,x*2,none⟩=some S:=(hb2.cell (p:=⟨gk,x*2,none⟩) (Nat.lt_of_lt_of_le (zh cS) hb1.size)).trans ((hb1.cell (p:=⟨gk,x*2,none⟩) (zh cS)).trans cS);have hal:∀o,Below w2.heap.size w2 (w2.alloc o):=fun o=>(Below.refl _ _).alloc (Nat.le_refl _) o
      have p6o:=fun o=>((hal o).cell (p:=⟨R,6,none⟩) (zh p6)).trans p6
      have cSo:=fun o=>((hal o).cell (p:=⟨gk,x*2,none⟩) (zh cS2)).trans cS2
      have HS2:=hid hS2;have HS2n:=hid (show SRows w2 base R L (zaq B) (.slice (some ⟨gk,0,none⟩) n kc) U C B (sgC s.left 2 last s.tch) (jj C 0 lo0 (some (s.lo,s.hi)) false) s.ix s.vs s.l from by rw[Hn.out];exact hS2);have hseg2:=hS2.seg;rw[←Hn.out] at hseg2;have hbw2:base≤w2.heap.size:=by have:=hS2.row.lt;omega
      have Hb2:=hid (Hb0.out.trans ((hb1.mono Hbw.out).trans (hb2.mono (Nat.le_trans Hbw.out hb1.size))));have hll:s.l.length+1≤1000000000000:=by have:=HF.out.ll;have:=Hq.out;have:=HE.out;omega
      have Hll:=hid hll;have Hli:=hid HF.out.li;clear hb1 hb2 hX hS1 hS2 hal q6 q8 hll cS;go_wp2_with fail;rw[←hw2];clear hw2;have HRw:=hid (show base≤gk from Hgk.out);go_cut [] (fun wc=>Hid (IRows w2 wc base R L (zaq B) (.slice (some ⟨gk,0,none⟩) n kc) U C B (sgC s.left 2 last s.tch) (jj C 0 lo0 (some (s.lo,s.hi)) false) s.ix (s.ix++[x]) s.vs (s.l++[(s.lo,s.hi)])))
      case first=>
       go_region_law (first
        | (refine z4u rfl (.tmp 70) (.tmp 72) rfl rfl hseg2 Hn.out Hli.out hxn cS2 (s.lo,s.hi) ?hW hbw2 rfl _ _ rfl (vy (yp _ _ _ (by simp)) rfl rfl) Hll.out ?_
           case hW=>repeat (first | exact Below.refl _ _ | refine Below.alloc ?_ (by simp) _ | refine Below.drew ?_ | refine zy ?_ _)
           intro gS m cS' w4 hO;have hq4:=hO.cell;have hf4:=hO.frozen;have p6w:=(hO.row R _ _ HS2.out.row (by decide)).cell 6 rfl;rw[←Hn.out] at p6w;have HO:=hid hO;clear hO))
       all_goals
        go_wp2;go_meet
        exact HO.out.rows HS2n.out HRw.out
      case rest=>
       have HI:=hid hcut.out;have hU3:=hcut.out.used;have q7:=hcut.out.row.cell 7 rfl;have hxi:x<9223372036854775808:=by omega
       have hil:s.ix.length<9223372036854775807:=by have:=HF.out.ll;have:=HF.out.li;have:=Hq.out;have:=HE.out;omega
       have hbc:=Hb2.out.trans hcut.out.below;have Hbc:=hid hbc;have Hbwc:=hid (show base≤wc.heap.size by have:=hcut.out.row.lt;omega);clear hcut hseg2 cS2 cSo p6o p6 hbc;obtain⟨k,hk⟩:∃k,k=s.left:=⟨_,rfl⟩;rw[←hk] at HI;have Hk:=hid hk;have hk0:=Hleft.out;have hk1:=HF.out.left;rw[←hk] at hk0 hk1;obtain⟨k1,hkk⟩:∃k1,k1=k - 1:=⟨_,rfl⟩;have hkw:IntKind.u64.wrap ((k:Int) - 1)=(k1:Int):=by rw[IntKind.wrap_u64];omega
       have Hkk:=hid hkk;by_cases hl1:k=1
       · have hz:((k1:Int) == 0)=true:=by rw[beq_iff_eq];omega
         have Hv:=hid (Hvv.out.trans (if_pos (by rw[←Hk.out];exact hl1)));have hpq:IntKind.i64.wrap ((p:Int)+((je x).length:Int))=(q:Int):=by have:=Hq.out;have:=HqE.out;have:=HE.out;rw[IntKind.wrap_i64];omega
         have HSz:=hid (fun W=>zi9 x W Hx.out);obtain⟨fr,hfr⟩:∃fr,fr=k8 E { s with l:=s.l++[(s.lo,s.hi)],ix:=s.ix++[x],left:=0,turn:=0 } q:=⟨_,rfl⟩;rw[←hfr] at Hv
         have HFn:=hid (fun K U C W h1 h2 h3 h4 h5 h6=>hfr ▸ zr5 base R L { s with l:=s.l++[(s.lo,s.hi)],ix:=s.ix++[x],left:=0,turn:=0 } (zaq B) K U C E q W h1 h2 h3 h4 h5 h6 (by simp[HF.out.li]) (by
          intro i hi;simp only[List.mem_append,List.mem_singleton] at hi;rcases hi with hi | rfl
          · exact HF.out.ix i hi
          · have:=Hn.out;exact this ▸ hxn) HRs.out HqE.out)
         clear hk hk0 hk1 hkk hl1 hfr;go_wp2_with (at_mapUpdate;refine zrh rfl _ _ _ rfl U s.ix hU3 x hxi hil rfl rfl rfl ?_;intro w5 hu5 hg5;have hS5:=HI.out.map hu5 hg5 rfl;have t2:=hS5.srow.cell 2 rfl;have y2:=hS5.srow.fz 2;have t0:=hS5.srow.cell 0 rfl;have y0:=hS5.srow.fz 0;have HS7:=hid ((hS5.setB 2 (.int .i64 (x:Int))).setB 0 (.int .u64 (k1:Int)));have Hb7:=hid (((Hbc.out.grown hg5 Hbwc.out (fun k hk=>by injection hk with hk;omega)).setCell (p:=⟨B,2,none⟩) hB0 (.int .i64 (x:Int))).setCell (p:=⟨B,0,none⟩) hB0 (.int .u64 (k1:Int)));clear hu5 hg5 hS5);refine(HSz.out _).mono ?_;rintro e w6 ⟨rfl,rfl⟩;go_wp2_with fail;refine(HFn.out _ U C _ hR0 hU hC HS7.out.row HS7.out.used (by have:=HS7.out.seg;exact this)).mono ?_;rintro e w6 ⟨hb6,hr6⟩
         cases fr with
         | error c=>
          obtain⟨rfl,hr6⟩:=hr6;go_wp2_with fail;go_ret
          exact⟨Hb7.out.trans hb6,by rw[Hv.out];exact⟨rfl,hr6⟩⟩
         | ok s'=>
          obtain⟨rfl,hr6⟩:=hr6;go_wp2_with fail;go_ret;exact⟨Hb7.out.trans hb6,by rw[Hv.out];exact⟨rfl,hr6⟩⟩
       · have hz:((k1:Int) == 0)=false:=by rw[beq_eq_false_iff_ne];omega
         have Hv:=hid (Hvv.out.trans (if_neg (by rw[←Hk.out];exact hl1)));clear hk hk0 hk1 hkk hl1;go_wp2_with (at_mapUpdate;refine zrh rfl _ _ _ rfl U s.ix hU3 x hxi hil rfl rfl rfl ?_;intro w5 hu5 hg5;have hS5:=HI.out.map hu5 hg5 rfl;have t2:=hS5.srow.cell 2 rfl;have y2:=hS5.srow.fz 2;have t0:=hS5.srow.cell 0 rfl;have y0:=hS5.srow.fz 0;have t1:=hS5.srow.cell 1 rfl;have y1:=hS5.srow.fz 1;have HS7:=hid (((hS5.setB 2 (.int .i64 (x:Int))).setB 0 (.int .u64 (k1:Int))).setB 1 (.int .i64 0));have Hb7:=hid ((((Hbc.out.grown hg5 Hbwc.out (fun k hk=>by injection hk with hk;omega)).setCell (p:=⟨B,2,none⟩) hB0 (.int .i64 (x:Int))).setCell (p:=⟨B,0,none⟩) hB0 (.int .u64 (k1:Int))).setCell (p:=⟨B,1,none⟩) hB0 (.int .i64 0));clear hu5 hg5 hS5);go_ret;refine⟨Hb7.out,?_⟩;rw[Hv.out];refine⟨rfl,SRows.wkr (lo0:=lo0) (K:=.slice (some ⟨gk,0,none⟩) n kc) (last:=(x:Int)) (touch:=s.tch) (s:={ s with l:=s.l++[(s.lo,s.hi)],ix:=s.ix++[x],left:=s.left - 1,turn:=0 }) ?_ Ht.out hR0 hU hC hB0 (fun y hy=>?_) (fun h=>?_) rfl⟩
         · have:=HS7.out;rw[show s.left - 1=k1 from by rw[Hkk.out,Hk.out]];simp only[cuC,List.getLast?_append,List.getLast?_singleton,Option.some_or];exact this
         · simp at hy;rw[hy]
         · exact absurd h (by simp)
end
section
open Go.RowKit
theorem z4w {l:List Nat} {E m:Nat} (hl:∀c∈l,c<256):∀(N:Nat) (acc:List Iv) (q:Nat) {h:List Iv} {q2:Nat},jb (zf l E) m N acc q=.ok (h,q2)→q+2*h.length≤q2+2*acc.length:=by
 intro N
 induction N with
 | zero=>intro acc q h q2 e;cases e;exact Nat.le_refl _
 | succ N ih=>
  intro acc q h q2 e;unfold jb at e
  cases hi:ivP (zf l E) (z7 acc) 1 q with
  | error x=>rw[hi] at e;cases e
  | ok y=>
   obtain⟨⟨s,wh⟩,q3⟩:=y;rw[hi,ye] at e;obtain⟨a1,-⟩:=zii hl hi;unfold zaw at e;split at e
   · cases e
   · have:=ih _ _ e;rw[List.length_append,List.length_singleton] at this;omega
theorem z4x {l:List Nat} {E q q2:Nat} {lim:Int} {v:Vec} {y:Ent} (hl:∀c∈l,c<256) (h:jr (zf l E) E lim v q=.ok (y,q2)):q+3+2*y.2.2.length≤q2:=by
 unfold jr nmP at h
 cases hT:zf l E q with
 | error c=>rw[hT] at h;cases h
 | ok z=>
  obtain⟨x,q1⟩:=z;obtain⟨t1,-⟩:=za8 hl hT;simp only[hT,thn] at h;split at h
  · cases h
  · unfold zbs nmP at h;rename_i r _
    cases hT2:zf l E q1 with
    | error c=>simp only[hT2,thn] at h;cases h
    | ok z2=>
     obtain⟨mx,q3⟩:=z2;obtain⟨u1,-⟩:=za8 hl hT2;simp only[hT2,thn] at h;unfold zb6 at h
     cases hc:yj (zf l E) E lim q3 with
     | error c=>rw[hc] at h;cases h
     | ok z3=>
      obtain⟨n,q4⟩:=z3;rw[hc,ye] at h
      cases hh:jb (zf l E) mx n [] q4 with
      | error c=>rw[hh] at h;cases h
      | ok z4=>
       obtain⟨hs,q5⟩:=z4;rw[hh,ye] at h;cases h;have:=z4w hl n [] q4 hh;have:=zim hl hc;simp only[List.length_nil] at*;omega
theorem z4y {l:List Nat} {E:Nat} {lim:Int} (hl:∀c∈l,c<256):∀(N:Nat) (v:Vec) (q:Nat) {u:Vec} {q2:Nat},qu (zf l E) E lim N v q=.ok (u,q2)→q≤l.length→q≤E→q+(u.flatMap qz).length≤q2+(v.flatMap qz).length∧q2≤l.length∧q2≤E∧(u=[]→v=[]):=by
 intro N
 induction N with
 | zero=>intro v q u q2 e h1 h2;cases e;exact⟨Nat.le_refl _,h1,h2,fun h=>h⟩
 | succ N ih=>
  intro v q u q2 e h1 h2;unfold qu at e
  cases hi:jr (zf l E) E lim v q with
  | error x=>rw[hi] at e;cases e
  | ok y=>
   obtain⟨y,q3⟩:=y;rw[hi,ye] at e;obtain⟨a1,a2,a3⟩:=zs3 hl hi;have b:=z4x hl hi;obtain⟨c1,c2,c3,c4⟩:=ih _ _ e a2 a3;rw[List.flatMap_append,List.length_append,List.flatMap_singleton,zf5] at c1;exact⟨by omega,c2,c3,fun h=>by have:=c4 h;simp at this⟩
theorem z4z {l:List Nat} {E q q2:Nat} {le lh:Int} {v:Vec} (hl:∀c∈l,c<256) (h:vk (zf l E) E le lh q=.ok (v,q2)):q+(zl v).length≤q2∧q2≤l.length∧q2≤E:=by
 unfold vk at h
 cases hc:yj (zf l E) E le q with
 | error c=>rw[hc] at h;cases h
 | ok z=>
  obtain⟨n,q1⟩:=z;rw[hc,ye] at h;obtain⟨b1,b2,-⟩:=zfb hl hc;have b3:=zim hl hc;split at h
  · cases h
  · obtain⟨c1,c2,c3,-⟩:=z4y hl _ _ _ h b1 b2;refine⟨?_,c2,c3⟩;unfold zl;rw[List.length_cons];simp only[List.flatMap_nil,List.length_nil] at c1;omega
def SegB (wz w:World) (base:Nat) (K:Value) (vs:List Vec) (l:List Iv) (ix:List Nat) (all:Value) (la:List Iv):Prop:=
 ∃X Y,base≤wz.heap.size∧Steady 0 zag wz w∧(∀i,i<vs.length→EnSl wz 0 (Y i) (qq vs i))∧w.ownsRow base 97 2 K vs.length (k7 vs.length X Y)∧
  (∀i,i<vs.length→w.ownsRow wz.heap.size 89 2 (X i) (itN l ix i).length (ivC (itN l ix i)))∧(∀i,i<vs.length→∀j,j<vs.length→i≠j→∀b,(X i).ownBlock=some b→(X j).ownBlock≠some b)∧
  w.ownsRow wz.heap.size 89 2 all la.length (ivC la)∧∀i,i<vs.length→∀b,(X i).ownBlock=some b→all.ownBlock≠some b
theorem SegB.seg {wz w:World} {base:Nat} {K all:Value} {vs:List Vec} {l la:List Iv} {ix:List Nat} (h:SegB wz w base K vs l ix all la):SegM w base K vs l ix:=by
 obtain⟨X,Y,h1,h2,h3,h4,h5,h6,-,-⟩:=h;exact⟨wz,X,Y,h1,h2,h3,h4,h5,h6⟩
theorem SegB.own {wz w:World} {base:Nat} {K all:Value} {vs:List Vec} {l la:List Iv} {ix:List Nat} (h:SegB wz w base K vs l ix all la):w.ownsRow base 89 2 all la.length (ivC la):=by
 obtain⟨X,Y,h1,h2,h3,h4,h5,h6,h7,h8⟩:=h;exact vz h7 h1
theorem KV.segB {w:World} {base:Nat} {K:Value} {vs:List Vec} (h:KV w base K vs) (hb:base≤w.heap.size):SegB w w base K vs [] [] (.slice none 0 0) []:=by
 obtain⟨Y,h1,h2⟩:=h;exact⟨zc0,Y,hb,⟨Nat.le_refl _,fun _ _ _=>rfl⟩,h2,h1,fun i hi=>World.ownsRow_nil _ _ _ _,(fun i hi j hj _ b hb=>by simp[zc0,Value.ownBlock] at hb),World.ownsRow_nil _ _ _ _,fun i hi b hb=>by simp[zc0,Value.ownBlock] at hb⟩
theorem SegB.steady {wz w w':World} {base:Nat} {K all:Value} {vs:List Vec} {l la:List Iv} {ix:List Nat} (h:SegB wz w base K vs l ix all la) (hs:Steady 0 zai w w'):SegB wz w' base K vs l ix all la:=by
 obtain⟨X,Y,h1,h2,h3,h4,h5,h6,h7,h8⟩:=h;exact⟨X,Y,h1,h2.trans (hs.weak fun T hT=>hT.imp id .inl),h3,zd6 h4 hs (.inr (.inr rfl)),fun i hi=>zd6 (h5 i hi) hs (.inl rfl),h6,zd6 h7 hs (.inl rfl),h8⟩
theorem SegB.grown {wz w w':World} {base g:Nat} {K all:Value} {vs:List Vec} {l la:List Iv} {ix:List Nat} (h:SegB wz w base K vs l ix all la) (hN:NotT w g) (hg:w.grownBy w' (some g)):SegB wz w' base K vs l ix all la:=h.steady (zeb hN (Nat.zero_le _) hg)
theorem SegB.later {wz w w':World} {base:Nat} {K all:Value} {vs:List Vec} {l la:List Iv} {ix:List Nat} (h:SegB wz w base K vs l ix all la) (hb:Below w.heap.size w w'):SegB wz w' base K vs l ix all la:=h.steady (.of_below hb)
theorem z40 {w:World} {base sz n:Nat} {e:TypeId} {v:Value} {xs:List Value} (h:w.ownsRow base e sz v n xs):∀k,v.ownBlock=some k→∃C fr,w.heap[k]?=some (.cells C e fr):=fun k hk=>by
 rcases h.2 with ⟨e,_⟩ | ⟨b,cap',cur,e,_,hh,_⟩
 · rw[e] at hk;cases hk
 · have e':b=k:=by rw[e] at hk;simpa [Value.ownBlock] using hk
   subst e';exact⟨_,_,hh⟩
theorem SegB.more {wz w:World} {base:Nat} {K all:Value} {vs:List Vec} {l la:List Iv} {ix:List Nat} (h:SegB wz w base K vs l ix all la) (s:Iv) (A:Option Addr) (c:Nat) (hr:Rd w 2 A 1 (ivC [s])) (hb:la.length+1≤1000000000000):
 ∃S' w',(Builtin.append_ #[91,91] 91 #[all,.slice A 1 c]).run Tryz.prog w=.ok S' w'∧w.grownBy w' all.ownBlock∧(∀k,all.ownBlock=some k→base≤k∧∃C fr,w.heap[k]?=some (.cells C 89 fr))∧SegB wz w' base K vs l ix S' (la++[s]):=by
 obtain⟨X,Y,h1,h2,h3,h4,h5,h6,h7,h8⟩:=h;obtain⟨S',w',hrun,ho,hg,hat⟩:=zh5 wz.heap.size all _ _ h7 A c s hr (by omega) h2.size;have keep:∀k,k<w.heap.size→all.ownBlock≠some k→w'.heap[k]?=w.heap[k]?:=fun k hk hne=>hg.block k hk fun e=>hne e.symm
 refine⟨S',w',hrun,hg,fun k hk=>⟨Nat.le_trans h1 (h7.lt k hk).1,z40 h7 k hk⟩,X,Y,h1,⟨Nat.le_trans h2.size hg.size,fun k hk hp=>?_⟩,h3,?_,fun i hi=>?_,h6,by rw[List.length_append];exact ho,fun i hi b hx hy=>?_⟩
 · rw[keep k (Nat.lt_of_lt_of_le hk h2.size) fun e=>by have:=(h7.lt k e).1;omega];exact h2.row k hk hp
 · exact qs h4 fun k hk=>keep k (h4.lt k hk).2 fun e=>zb8 h4 h7 (by decide) k hk e
 · exact qs (h5 i hi) fun k hk=>keep k ((h5 i hi).lt k hk).2 (h8 i hi k hk)
 · rcases hat b hy with h' | h'
   · exact h8 i hi b hx h'
   · have:=((h5 i hi).lt b hx).2;omega
theorem SegB.put {wz w:World} {base g cap:Nat} {all:Value} {la:List Iv} {vs:List Vec} {l:List Iv} {ix:List Nat} (h:SegB wz w base (.slice (some ⟨g,0,none⟩) vs.length cap) vs l ix all la) (hli:ix.length=l.length) {i:Nat} (hi:i<vs.length) {S:Value} (hS:w.cell? ⟨g,i*2,none⟩=some S) (s:Iv)
 (W:World) (hW:Below w.heap.size w W) (A:Option Addr) (c:Nat) (hr:Rd W 2 A 1 (ivC [s])) (hb:l.length+1≤1000000000000):
 ∃S' w',(Builtin.append_ #[91,91] 91 #[S,.slice A 1 c]).run Tryz.prog W=.ok S' w'∧(∃gS m cS,S'=.slice (some ⟨gS,0,none⟩) m cS)∧W.grownBy w' S.ownBlock∧(∀k,S.ownBlock=some k→base≤k∧∃C fr,W.heap[k]?=some (.cells C 89 fr))∧w'.cell? ⟨g,i*2,none⟩=some S∧w'.frozen? ⟨g,i*2,none⟩=false∧
  ∀w2,w'.grownBy w2 none→SegB wz (w2.setCell ⟨g,i*2,none⟩ S') base (.slice (some ⟨g,0,none⟩) vs.length cap) vs (l++[s]) (ix++[i]) all la:=by
 obtain⟨X,Y,h1,h2,h3,h4,h5,h6,h7,h8⟩:=h
 have e0:X i=S:=by
  have c1:=h4.cells (g:=g) rfl _ _ (zcy hi X Y).1;rw[yk,Nat.zero_add,hS] at c1;injection c1 with c1;exact c1.symm
 subst e0;have k4:=qc h4 hW;have k5:=fun j hj=>qc (h5 j hj) hW
 have hz:wz.heap.size≤W.heap.size:=Nat.le_trans h2.size hW.size;have hit:(itN l ix i).length≤l.length:=zk0 _ _ _ _;obtain⟨S',w',hrun,ho,hg,hat⟩:=zh5 wz.heap.size (X i) _ _ (k5 i hi) A c s hr (by omega) hz
 have hty:∀k,(X i).ownBlock=some k→∃C fr,W.heap[k]?=some (.cells C 89 fr):=fun k hk=>by
  rcases(k5 i hi).2 with ⟨e,_⟩ | ⟨b,cap',cur,e,_,hh,_⟩
  · rw[e] at hk;cases hk
  · have e':b=k:=by rw[e] at hk;simpa [Value.ownBlock] using hk
    subst e';exact⟨_,_,hh⟩
 have hne:(X i).ownBlock≠some g:=fun e=>zb8 k4 (k5 i hi) (by decide) g rfl e
 have e4:w'.ownsRow base 97 2 (.slice (some ⟨g,0,none⟩) vs.length cap) vs.length (k7 vs.length X Y):=qs k4 fun k hk=>by
  have e:g=k:=by simpa [Value.ownBlock] using hk
  subst e;exact hg.block g (k4.lt g rfl).2 fun e=>hne e.symm
 have hcell:w'.cell? ⟨g,i*2,none⟩=some (X i):=by
  have c1:=e4.cells (g:=g) rfl _ _ (zcy hi X Y).1;rwa [yk,Nat.zero_add] at c1
 obtain⟨gS,cS,eS,-⟩:=zbq ho (Nat.succ_pos _);refine⟨S',w',hrun,⟨gS,_,cS,eS⟩,hg,fun k hk=>⟨Nat.le_trans h1 ((k5 i hi).lt k hk).1,hty k hk⟩,hcell,e4.frozenAt _,fun w2 hw2=>?_⟩;have f4:=qs (w':=w2) e4 fun k hk=>hw2.block k (e4.lt k hk).2 (by simp)
 have fS:=qs (w':=w2) ho fun k hk=>hw2.block k (ho.lt k hk).2 (by simp)
 obtain⟨p1,p2⟩:=f4.stored (i*2) S'
 have hrow:∃C fr,w2.heap[g]?=some (.cells C 97 fr):=by
  rcases f4.2 with ⟨h',_⟩ | ⟨g',cap',cur,h',_,hh,_⟩
  · cases h'
  · cases h';exact⟨_,_,hh⟩
 obtain⟨C,fr,hrow⟩:=hrow;have hset:∀k,k≠g→k<w2.heap.size→(w2.setCell ⟨g,i*2,none⟩ S').heap[k]?=w2.heap[k]?:=fun k hk hl=>p2.block k hl fun e=>hk (by injection e)
 have hst:Steady 0 zag w2 (w2.setCell ⟨g,i*2,none⟩ S'):=.setCell hrow (Nat.zero_le _) (by rintro(h | h) <;> cases h)
 have hsWw:Steady 0 zag wz w':=⟨Nat.le_trans hz hg.size,fun k hk hp=>by
  have hkW:k<W.heap.size:=Nat.lt_of_lt_of_le hk hz;have hkw:=Nat.lt_of_lt_of_le hk h2.size;rw[hg.block k hkW fun e=>by have:=((k5 i hi).lt k e.symm).1;omega,hW.block k hkw];exact h2.row k hk hp⟩
 refine⟨upd X i S',Y,h1,(hsWw.trans (⟨hw2.size,fun k hk _=>hw2.block k hk (by simp)⟩:Steady 0 zag w' w2)).trans hst,h3,?_,fun j hj=>?_,fun a ha b hb hab x hx=>?_,?_,fun a ha x hx=>?_⟩
 · rw[←zk3 hi];exact p1
 · by_cases e:j=i
   · subst e;rw[zbt,zh8 hli,if_pos rfl,List.length_append]
     exact qs fS fun k hk=>hset k (fun e=>by
      subst e;exact zb8 f4 fS (by decide) k rfl hk) (fS.lt k hk).2
   · rw[zax _ _ e,zh8 hli,if_neg (fun h=>e h.symm),List.append_nil];refine qs (h5 j hj) fun k hk=>?_
     have hl5:=(h5 j hj).lt k hk;have hkW:k<W.heap.size:=Nat.lt_of_lt_of_le hl5.2 hW.size;rw[hset k (fun e'=>by subst e';exact zb8 h4 (h5 j hj) (by decide) k rfl hk) (Nat.lt_of_lt_of_le hkW (Nat.le_trans hg.size hw2.size)),hw2.block k (Nat.lt_of_lt_of_le hkW hg.size) (by simp),hg.block k hkW (fun e'=>h6 j hj i hi e k hk e'.symm),hW.block k hl5.2]
 · by_cases ea:a=i
   · subst ea;rw[zbt] at hx;rw[zax _ _ (fun e=>hab e.symm)];intro hy;rcases hat x hx with h' | h'
     · exact h6 a ha b hb hab x h' hy
     · have:=((h5 b hb).lt x hy).2;have:=hW.size;omega
   · rw[zax _ _ ea] at hx;by_cases eb:b=i
     · subst eb;rw[zbt];intro hy;rcases hat x hy with h' | h'
       · exact h6 a ha b hb hab x hx h'
       · have:=((h5 a ha).lt x hx).2;have:=hW.size;omega
     · rw[zax _ _ eb];exact h6 a ha b hb hab x hx
 · have hl7:=fun k hk=>h7.lt k hk
   refine qs h7 fun k hk=>?_
   have hkW:k<W.heap.size:=Nat.lt_of_lt_of_le (h7.lt k hk).2 hW.size;rw[hset k (fun e'=>by subst e';exact zb8 h4 h7 (by decide) k rfl hk) (Nat.lt_of_lt_of_le hkW (Nat.le_trans hg.size hw2.size)),hw2.block k (Nat.lt_of_lt_of_le hkW hg.size) (by simp),hg.block k hkW (fun e'=>h8 i hi k e'.symm hk),hW.block k (h7.lt k hk).2]
 · by_cases ea:a=i
   · subst ea;rw[zbt] at hx;intro hy;rcases hat x hx with h' | h'
     · exact h8 a ha x h' hy
     · have:=(h7.lt x hy).2;have:=hW.size;omega
   · rw[zax _ _ ea] at hx;exact h8 a ha x hx
theorem zlu {k:Kno} (hk:LtK k) (hs:SmallK k) (hi:zu k≤240):EncK (qt k):=by
 obtain⟨h1,h2,h3⟩:=zra hk (zlc hk hs) hi;obtain⟨c1,c2,-⟩:=zke hk;exact⟨c1,c2,h3,by omega,by omega⟩
theorem ztg (a:Option Addr) (n cap:Nat) (k:Kno) (w:World) (hE:Frags w a n cap k) (hD:Door w) (hck:ckF k=none) (hs:SmallK k) (h240:zu k≤240):
 Calls Tryz.prog 54 #[.slice a n cap] w fun x w'=>(∃b c,x=.returned (.tuple #[.slice b (yq (qr (qt k))).length c,.nilIface])∧Byts w' b (yq (qr (qt k))).length c (yq (qr (qt k))))∧Below w.heap.size w w':=by
 have hk:=z1l hE.all hck;have hK:=zlu hk hs h240;obtain⟨c1,c2,-⟩:=zke hk;obtain⟨-,ic,lc⟩:=z1q hk hs h240;have hJ:=z1k hk hs hck;refine(z3o a n cap k w hE hD hck hJ (Nat.le_trans (z1e _) (by omega)) c2 c1 (by omega) hK.vec (fun d hd=>by have:=z3b hK d hd;omega) (by omega)).mono ?_;rintro x w' ⟨⟨v,rfl,hv⟩,hb⟩;obtain⟨b,c,rfl,hB⟩:=zmb hv (ztc _);exact⟨⟨b,c,rfl,hB⟩,hb⟩
