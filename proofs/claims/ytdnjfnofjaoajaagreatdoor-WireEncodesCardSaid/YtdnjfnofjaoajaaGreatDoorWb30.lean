/- Walks and laws, joined: Wb30. -/
import Derived.Test.YtdnjfnofjaoajaaGreatDoorWb29
set_option linter.unusedVariables false
set_option maxHeartbeats 16000000
namespace Go.Proofs.YtdnjfnofjaoajaaGreatDoor
open Lib (hid)
section
def za3 {α:Type} (E:Nat) (a:RR α):Prop:=match a with | .error e=>e.2≤E∧e.1≠0 | .ok y=>y.2≤E
structure TokE (T:yo) (E:Nat):Prop where
 ok:∀p x q,T p=.ok (x,q)→q≤E
 error:∀p c,T p=.error c→c≠0
theorem zbk {α β:Type} {E:Nat} {a:RR α} {f:α→Nat→RR β} (h:za3 E a) (hf:∀x q,q≤E→za3 E (f x q)):za3 E (thn a f):=by
 cases a with
 | error e=>exact h
 | ok y=>exact hf y.1 y.2 h
theorem zfb {α:Type} {E:Nat} {c:Prop} [Decidable c] {a b:RR α} (h1:za3 E a) (h2:za3 E b):za3 E (if c then a else b):=by split <;> assumption
variable {T:yo} {E:Nat}
theorem zha (h:TokE T E) {p:Nat} (hp:p≤E):za3 E (nmP T p):=by
 unfold nmP
 cases hT:T p with
 | error c=>exact⟨hp,h.error p c hT⟩
 | ok y=>exact h.ok p y.1 y.2 hT
theorem zlu (h:TokE T E) (lim:Int) {p:Nat} (hp:p≤E):za3 E (kg T E lim p):=zbk (zha h hp) fun x q hq=>by
 split
 · exact hq
 · rename_i h1;exact⟨hp,h1⟩
theorem z7h (h:TokE T E) (lo:Nat) {q:Nat} (hq:q≤E):za3 E (hiP T lo q):=zbk (zha h hq) fun x r hr=>zfb hr ⟨hq,by simp⟩
theorem z7i (lo:Nat) {q r:Nat} {s:Iv×Nat} (h:hiP T lo q=.ok (s,r)):s.2=q:=by
 unfold hiP at h;obtain⟨x,r',-,h2⟩:=kh h;split at h2
 · cases h2;rfl
 · cases h2
theorem zwf (h:TokE T E) (prev:Option Nat) (a:Nat) {p:Nat} (hp:p≤E):za3 E (ivP T prev a p):=zbk (zha h hp) fun x q hq=>by
 cases loP prev a x with
 | none=>exact⟨hp,by simp⟩
 | some lo=>exact z7h h lo hq
theorem z7j (h:TokE T E) {prev:Option Nat} {a p r:Nat} {s:Iv×Nat} (hv:ivP T prev a p=.ok (s,r)):s.2≤E:=by
 unfold ivP at hv;obtain⟨x,q,h1,h2⟩:=kh hv
 cases hlo:loP prev a x with
 | none=>rw[hlo] at h2;cases h2
 | some lo=>rw[hlo] at h2;rw[z7i lo h2];exact h.ok _ _ _ (ze9 h1)
theorem z7k {α β:Type} {a:RR α} {f:α→Nat→RR β} (h:za3 E a) (hf:∀x q,a=.ok (x,q)→q≤E→za3 E (f x q)):za3 E (thn a f):=by
 cases a with
 | error e=>exact h
 | ok y=>exact hf y.1 y.2 rfl h
theorem zwg (h:TokE T E) (mx:Nat):∀n acc {p:Nat},p≤E→za3 E (zac T mx n acc p)
 | 0,acc,p,hp=>hp
 | n+1,acc,p,hp=>by
   rw[zac];refine z7k (zwf h _ _ hp) fun s q hs hq=>?_
   unfold zdb;exact zfb ⟨z7j h hs,by simp⟩ (zwg h mx n _ hq)
theorem zwh (h:TokE T E) (lim:Int):∀n acc {p:Nat},p≤E→za3 E (vy T E lim n acc p)
 | 0,acc,p,hp=>hp
 | n+1,acc,p,hp=>by
   rw[vy];refine zbk (zbk (zha h hp) fun x q hq=>?_) fun e q hq=>zwh h lim n _ hq
   cases zay acc x with
   | none=>exact⟨hp,by simp⟩
   | some r=>exact zbk (zha h hq) fun mx q hq=>zbk (zlu h lim hq) fun n q hq=>zbk (zwg h mx n [] hq) fun _ _ hq=>hq
theorem zwi (h:TokE T E) (le lh:Int):∀n acc {p:Nat},p≤E→za3 E (vz T E le lh n acc p)
 | 0,acc,p,hp=>hp
 | n+1,acc,p,hp=>by
   rw[vz];refine zbk (zbk (zlu h le hp) fun n q hq=>zfb ⟨hp,by simp⟩ (zwh h lh n [] hq)) fun v q hq=>zfb ⟨hp,by simp⟩ (zwi h le lh n _ hq)
theorem zwj (h:TokE T E) (N:Nat):∀m l ix {p:Nat},p≤E→za3 E (vm T N m l ix p)
 | 0,l,ix,p,hp=>hp
 | m+1,l,ix,p,hp=>by
   rw[vm];refine zbk (zwf h _ _ hp) fun s q hq=>zbk (zha h hq) fun x r hr=>zfb ⟨hq,by simp⟩ (zfb ⟨hq,by simp⟩ (zwj h N m _ _ hr))
theorem zwk (h:TokE T E) (L:zt) {p:Nat} (hp:p≤E):za3 E (zat T E L p):=
 zbk (zlu h _ hp) fun n q hq=>zbk (zwi h _ _ n [] hq) fun vs q hq=>zbk (zlu h _ hq) fun m q hq=>zbk (zwj h _ m [] [] hq) fun s q hq=>zfb ⟨hq,by simp⟩ (zfb ⟨hq,by simp⟩ hq)
theorem z7l {l:List Nat} (hl:∀c∈l,c<256):Fwd (yr l):=fun p x q h=>(zde hl h).1
theorem z7m {l:List Nat} (hl:∀c∈l,c<256):T64 (yr l):=fun p x q h=>(zde hl h).2.2.1
theorem zwl {l:List Nat} (hl:∀c∈l,c<256):TokE (yr l) l.length:=⟨fun p x q h=>(zde hl h).2.1,fun p c h=>by
 unfold yr at h;split at h
 · cases h
 · cases h;decide
 · cases h;decide⟩
def zag (L:zt) (l:List Nat):RR Kno:=zat (yr l) l.length L 0
theorem zhb (ns:List Nat):∀c∈zo ns,c<256:=fun c hc=>by
 unfold zo at hc;obtain⟨x,-,hx⟩:=List.mem_flatMap.1 hc;exact zyu x c hx
theorem zlv {L:zt} {c:Kno} (hc:CanK c) (hK:EncK c) (t:List Nat) (ht:∀x∈t,x<256):
 (okK L c→zag L (zo (zk c)++t)=if 0<t.length then .error (11,(zo (zk c)).length) else .ok (c,(zo (zk c)).length))∧(¬okK L c→∃w,zag L (zo (zk c)++t)=.error (7,w)):=by
 have hl:∀x∈zo (zk c)++t,x<256:=fun x hx=>by
  rcases List.mem_append.1 hx with h | h
  · exact zhb _ x h
  · exact ht x h
 have hr:=zts (l:=zo (zk c)++t) (ns:=zk c) (t:=t) (p:=0) (zv2 hK) rfl;rw[Nat.zero_add] at hr;obtain⟨h1,h2⟩:=z65 (E:=(zo (zk c)++t).length) (L:=L) (z7l hl) hc hK.lt hr (by rw[List.length_append];omega);refine⟨fun h=>?_,h2⟩;unfold zag;rw[h1 h,List.length_append];by_cases h0:0<t.length
 · rw[if_pos h0,if_pos (by omega)]
 · rw[if_neg h0,if_neg (by omega)]
theorem zwm {L:zt} {l:List Nat} (hl:∀c∈l,c<256) {c:Kno} {q:Nat} (h:zag L l=.ok (c,q)):CanK c∧LtK c∧okK L c∧zo (zk c)=l∧q=l.length:=by
 obtain⟨h1,h2,h3,h4,h5⟩:=z7d (z7m hl) h
 have hq:q=l.length:=by
  have:=zwk (zwl hl) L (p:=0) (Nat.zero_le _);have e:zat (yr l) l.length L 0=.ok (c,q):=h;rw[e] at this;exact Nat.le_antisymm this h5
 refine⟨h1,h2,h3,?_,hq⟩;have:=ztt hl h4;rw[hq,List.drop_length,List.append_nil] at this;exact this.symm
theorem z7n {L:zt} {l:List Nat} (hl:∀c∈l,c<256) {e:Nat×Nat} (h:zag L l=.error e):e.2≤l.length∧e.1≠0:=by
 have:=zwk (zwl hl) L (p:=0) (Nat.zero_le _);have e':zat (yr l) l.length L 0=.error e:=h;rw[e'] at this;exact this
abbrev unl:zt:=(9223372036854775807,9223372036854775807,9223372036854775807,9223372036854775807,9223372036854775807)
theorem zlw {n:Nat} (h:n≤100000):okC n 9223372036854775807:=.inl (by omega)
theorem zwn {c:Kno} (hK:EncK c):(zj c).length≤1000:=by
 have h2:=ze0 c c.length (Nat.le_refl _);rw[List.take_length] at h2;have:=hK.sum;unfold zj;omega
theorem zec {c:Kno} (hK:EncK c):okK unl c:=
 ⟨zlw (by have:=hK.len;omega),fun i hi=>⟨zlw (by have:=(hK.vec _ (yb hi)).len;omega),fun j hj=>zlw (by have:=(hK.vec _ (yb hi)).holes _ (jb hj);omega)⟩,zlw (by have:=zwn hK;omega)⟩
theorem zed {c:Kno} (hK:EncK c) {L:zt} (h:okK L c):zag L (zo (zk c))=.ok (c,(zo (zk c)).length):=by
 have:=(zlv (L:=L) hK.can hK [] (fun x hx=>(by cases hx))).1 h;rw[List.append_nil] at this;exact this
theorem z7o {a b:Kno} (ka:EncK a) (kb:EncK b) (h:zo (zk a)=zo (zk b)):a=b:=by
 have h1:=zed ka (zec ka);have h2:=zed kb (zec kb);rw[h,h2] at h1;injection h1 with h1;injection h1 with h1 _;exact h1.symm
theorem zwo:∀(l:List Nat) (n j x:Nat),v7 (l.take n) j x=v7 l j x∨(v7 (l.take n) j x).1=0
 | [],n,j,x=>by rw[List.take_nil];exact .inl rfl
 | c :: l,0,j,x=>.inr rfl
 | c :: l,n+1,j,x=>by
   rw[List.take_succ_cons,v7,v7];split
   · exact .inl rfl
   · split
     · exact .inl rfl
     · exact zwo l n _ _
theorem zo1 (l:List Nat) (n p:Nat):yr (l.take n) p=yr l p∨yr (l.take n) p=.error 5:=by
 unfold yr;rw[List.drop_take];rcases zwo (l.drop p) (n - p) 0 0 with h | h
 · rw[h];exact .inl rfl
 · refine .inr ?_;generalize v7 ((l.drop p).take (n - p)) 0 0=s at h;obtain⟨a,b,d⟩:=s;simp only at h;subst h
   rfl
theorem z7p {L:zt} {l:List Nat} (hl:∀c∈l,c<256) {c:Kno} {q n:Nat} (h:zag L l=.ok (c,q)) (hn:n<l.length):∃w,zag L (l.take n)=.error (5,w):=by
 obtain⟨-,-,-,-,hq⟩:=zwm hl h;have hl':∀c∈l.take n,c<256:=fun c hc=>hl c (List.mem_of_mem_take hc)
 have e:(l.take n).length=n:=by rw[List.length_take];omega
 have:=z6c (T:=yr l) (T':=yr (l.take n)) (E:=l.length) (E':=n) ⟨fun p=>zo1 l n p,.inr ⟨rfl,by omega⟩⟩ (fun p x q h=>by have:=(zde hl' h).2.1;omega) L (Nat.zero_le _) h (by omega);unfold zag;rw[e];exact this
end
section
open Go.RowKit
attribute [local go_sem] vq
structure ItemOut (base g i n cap:Nat) (vs:List Vec) (l:List Iv) (ix:List Nat) (W w':World) (gS m cS:Nat) (S:Value):Prop where
 below:Below base W w'
 cell:w'.cell? ⟨g,i*2,none⟩=some S
 frozen:w'.frozen? ⟨g,i*2,none⟩=false
 row:∀g' T C,Row W g' T C→T≠99→Row w' g' T C
 used:∀U ux,UsedM W U ux→UsedM w' U ux
 fin:SegM (w'.setCell ⟨g,i*2,none⟩ (.slice (some ⟨gS,0,none⟩) m cS)) base (.slice (some ⟨g,0,none⟩) n cap) vs l ix
theorem z7q {w W:World} {ops:Array Oper} {o:Oper} {a:Act} {K:Act→World→Prop} {Q:Exit→Act→World→Prop} {E:Prop} (hgd:o.guard=none) (s x:Operand)
 (ho:o.op=.call { callee:=.builtin .append,args:= #[s,x],argTypes:= #[81,81] }) (hty:o.type=81)
 {base g n cap:Nat} {vs:List Vec} {l:List Iv} {ix:List Nat} (hM:SegM w base (.slice (some ⟨g,0,none⟩) n cap) vs l ix) (hn:n=vs.length) (hli:ix.length=l.length) {i:Nat} (hi:i<n) {S:Value} (hS:w.cell? ⟨g,i*2,none⟩=some S) (t:Iv) (hW:Below w.heap.size w W) (hbw:base≤w.heap.size)
 (hs:a.eval s=S) (A:Option Addr) (c:Nat) (hx:a.eval x=.slice A 1 c) (hr:Rd W 2 A 1 (ivC [t])) (hb:l.length+1≤1000000000000)
 (hK:∀gS m cS w',ItemOut base g i n cap vs (l++[t]) (ix++[i]) w w' gS m cS S→K (a.put o.dst (.slice (some ⟨gS,0,none⟩) m cS)) w'):
 if Region.wanted o (yielded ops a.tmps)=true then Oper.wp Tryz.prog o a W K Q else E:=by
 subst hn;obtain⟨S',w',hrun,⟨gS,m,cS,rfl⟩,h5,h6,h3,h4,h7⟩:=hM.put hli hi hS t W hW A c hr hb;refine zem hgd s x _ ho _ _ hs hx _ w' (by rw[hty];exact hrun) ?_;refine hK gS m cS w' ⟨?_,h3,h4,fun g' T C hR hT=>(hR.later hW).grown h5 fun e=>?_,fun U ux hU=>(hU.same (hW.block U hU.lt)).same (h5.block U (Nat.lt_of_lt_of_le hU.lt hW.size) fun e=>?_),h7 w' (zgl _ _)⟩
 · exact(hW.mono hbw).grown h5 (Nat.le_trans hbw hW.size) fun k hk=>(h6 k hk).1
 · obtain⟨-,C',fr,hk⟩:=h6 g' e.symm;replace hR:=hR.later hW;unfold Row at hR;rw[hk] at hR;injection hR with hR;injection hR with _ hR _;exact hT hR.symm
 · obtain⟨-,C',fr,hk⟩:=h6 U e.symm;exact(hU.same (hW.block U hU.lt)).ne hk rfl
structure IRows (w w':World) (base R:Nat) (L:zt) (part K:Value) (U C B:Nat) (S Cu:List Value) (ux ix:List Nat) (vs:List Vec) (l:List Iv):Prop where
 below:Below base w w'
 row:Row w' R 123 (wkC L part K U C .nilIface)
 srow:Row w' B 194 S
 cur:Row w' C 183 Cu
 used:UsedM w' U ux
 seg:SegM w' base K vs l ix
theorem ItemOut.rows {w w':World} {base g i n cap gS m cS R U C B:Nat} {vs:List Vec} {l l':List Iv} {ix ix':List Nat} {Sv:Value} {L:zt} {part:Value} {S Cu:List Value} (h:ItemOut base g i n cap vs l' ix' w w' gS m cS Sv) (hS:SRows w base R L part (.slice (some ⟨g,0,none⟩) n cap) U C B S Cu ix vs l) (hg:base≤g):
 IRows w (w'.setCell ⟨g,i*2,none⟩ (.slice (some ⟨gS,0,none⟩) m cS)) base R L part (.slice (some ⟨g,0,none⟩) n cap) U C B S Cu ix ix' vs l':=by
 obtain⟨w2,X,Y,-,-,-,h4,-,-⟩:=hS.seg;have ne:∀{g' T C'},Row w g' T C'→T≠85→g'≠g:=fun hR hT e=>hR.ne_own h4 hT g rfl e.symm
 have hrow:∃C' fr,w.heap[g]?=some (.cells C' 85 fr):=by
  rcases h4.2 with ⟨h',_⟩ | ⟨g',cap',cur,h',_,hh,_⟩
  · cases h'
  · cases h';exact⟨_,_,hh⟩
 obtain⟨C',fr,hrow⟩:=hrow;refine⟨h.below.setCell (p:=⟨g,i*2,none⟩) hg _,(h.row _ _ _ hS.row (by decide)).other (a:=⟨g,i*2,none⟩) (ne hS.row (by decide)) _,(h.row _ _ _ hS.srow (by decide)).other (a:=⟨g,i*2,none⟩) (ne hS.srow (by decide)) _,(h.row _ _ _ hS.cur (by decide)).other (a:=⟨g,i*2,none⟩) (ne hS.cur (by decide)) _,(h.used _ _ hS.used).same (heap_setCell_other _ ⟨g,i*2,none⟩ U _ fun e=>?_),h.fin⟩;exact hS.used.ne hrow e
theorem IRows.map {w wc w':World} {base R U C B:Nat} {S Cu:List Value} {ux ix ix':List Nat} {vs:List Vec} {l:List Iv} {L:zt} {part K:Value} (h:IRows w wc base R L part K U C B S Cu ux ix vs l) (hu:UsedM w' U ix') (hg:wc.grownBy w' (some U)) (hi:ix=ix'):SRows w' base R L part K U C B S Cu ix' vs l:=by
 subst hi;have ne:∀{g T C'},Row wc g T C'→some g≠some U:=fun hR e=>by injection e with e;exact h.used.ne (show wc.heap[_]?=_ from hR) e.symm
 exact⟨h.row.grown hg (ne h.row),h.srow.grown hg (ne h.srow),h.cur.grown hg (ne h.cur),hu,h.seg.grown h.used.notT hg⟩
def zdu (E:Nat) (s:WS) (p q x:Nat):Except (Nat×Nat) WS:=
 if s.vs.length≤x then .error (8,p) else if s.tch=true∧s.ix.getLast?=some x then .error (10,p) else
  if s.left=1 then k9 E { s with l:=s.l++[(s.lo,s.hi)],ix:=s.ix++[x],left:=0,turn:=0 } q
  else .ok { s with l:=s.l++[(s.lo,s.hi)],ix:=s.ix++[x],left:=s.left - 1,turn:=0 }
set_option maxRecDepth 100000 in
theorem z7r (base R:Nat) (L:zt) (s:WS) (K:Value) (U C B E x p q lo0:Nat) (last:Int) (touch:Bool) (w0 w:World) (ht:s.tag=3) (hR0:base≤R) (hU:base≤U) (hC:base≤C) (hB0:base≤B) (hb0:Below base w0 w)
 (hS:SRows w base R L (zbj B) K U C B (sgC s.left 2 last touch) (jw C 0 lo0 (some (s.lo,s.hi)) false) s.ix s.vs s.l) (hla:∀x,s.ix.getLast?=some x→last=(x:Int)) (hto:touch=s.tch) (htn:s.tch=true→s.ix≠[]) (hF:WFit s p) (hleft:0<s.left)
 (hx:x<18446744073709551616) (hq:q=p+(jx x).length) (hqE:q≤E) (hE:E<900000000000):
 Calls Tryz.prog 115 #[.pointer (some ⟨R,0,none⟩),.pointer (some ⟨B,0,none⟩),.int .u64 (x:Int),.int .i64 (p:Int),.int .i64 ((E - q:Nat):Int)] w (WkS w0 base R L (zdu E s p q x)):=by
 subst hto;obtain⟨ka,kc,hKe⟩:=hS.seg.len;subst hKe;obtain⟨n,hn⟩:∃n,n=s.vs.length:=⟨_,rfl⟩;have Hn:=hid hn;have q6:=hS.row.cell 6 rfl;have q8:=hS.row.cell 8 rfl;have v1:w.cell? ⟨B,1,none⟩=some (.int .i64 2):=hS.srow.cell 1 rfl;have v2:=hS.srow.cell 2 rfl;have v3:=hS.srow.cell 3 rfl;have hnl:n≤1000000000000:=by rw[hn];have:=hF.vsl;omega
 have hwn:IntKind.u64.wrap (n:Int)=(n:Int):=by rw[IntKind.wrap_u64];omega
 have Ht:=hid ht;have Hla:=hid hla;have Htn:=hid htn;have HF:=hid hF;have Hleft:=hid hleft;have HS:=hid hS;have Hb0:=hid hb0;have Hx:=hid hx;have Hq:=hid hq;have HqE:=hid hqE;have HE:=hid hE;have Hbw:=hid (show base≤w.heap.size by have:=hS.row.lt;omega);have HLa:=hid (zt2 C 0 lo0 (some (s.lo,s.hi)) false w hS.cur);rw[←hn] at q6;clear ht hla htn hF hleft hS hb0 hx hq hE hn;by_cases h8:n≤x
 · have Hv:=hid (show zdu E s p q x=.error (8,p) from if_pos (by rw[←Hn.out];exact h8));have HN:=hid (fun W=>zb7 (c:=8) (o:=p) (by decide) W);go_enter Tryz.func115,Tryz.ntmps115;go_wp2_with fail;refine(HN.out _).mono ?_;rintro e w' ⟨rfl,rfl⟩;go_wp2_with fail;go_ret;exact⟨Hb0.out,by rw[Hv.out];exact⟨rfl,_,HS.out.row,rfl⟩⟩
 · have hxn:x<n:=by omega
   have hwx:IntKind.i64.wrap (x:Int)=(x:Int):=by rw[IntKind.wrap_i64];omega
   by_cases h10:s.tch=true∧s.ix.getLast?=some x
   · have Hv:=hid (show zdu E s p q x=.error (10,p) from by
      unfold zdu;rw[if_neg (by rw[←Hn.out];exact h8),if_pos h10])
     have HN:=hid (fun W=>zb7 (c:=10) (o:=p) (by decide) W);have hl:=Hla.out x h10.2;rw[hl] at v2;rw[h10.1] at v3;clear h10 hl h8;go_enter Tryz.func115,Tryz.ntmps115;go_wp2_with fail;refine(HN.out _).mono ?_;rintro e w' ⟨rfl,rfl⟩;go_wp2_with fail;go_ret;exact⟨Hb0.out,by rw[Hv.out];exact⟨rfl,_,HS.out.row,rfl⟩⟩
   · have hgd:(s.tch=false)∨(s.tch=true∧((x:Int) == last)=false):=by
      cases htc:s.tch with
      | false=>exact .inl rfl
      | true=>
       right;refine⟨rfl,?_⟩;rw[beq_eq_false_iff_ne];intro e;have hne:=Htn.out htc
       obtain⟨y,hy⟩:∃y,s.ix.getLast?=some y:=by
        cases hg:s.ix.getLast? with
        | none=>exact absurd (List.getLast?_eq_none_iff.1 hg) hne
        | some y=>exact⟨y,rfl⟩
       have:=Hla.out y hy;have hxy:x=y:=by omega
       exact h10 ⟨htc,by rw[hy,hxy]⟩
     have Hvv:=hid (show zdu E s p q x=if s.left=1 then k9 E { s with l:=s.l++[(s.lo,s.hi)],ix:=s.ix++[x],left:=0,turn:=0 } q else .ok { s with l:=s.l++[(s.lo,s.hi)],ix:=s.ix++[x],left:=s.left - 1,turn:=0 } from by
      unfold zdu;rw[if_neg (by rw[←Hn.out];exact h8),if_neg h10])
     obtain⟨gk,kcap,hke,hgk,hgkl,-,S,cS⟩:=HS.out.seg.at (i:=x) (by rw[←Hn.out];exact hxn);have hka:ka=some ⟨gk,0,none⟩:=by injection hke
     subst hka;have hkc:kc=kcap:=by injection hke
     subst hkc;simp only[ivV,Option.getD_some,Option.isSome_some] at HLa;have h0x:(0:Int)≤x:=by omega
     have h0n:(x:Int)<(n:Int):=by omega
     have Hgk:=hid hgk;clear h10 h8 hke hgk;have Hgd:=hid hgd;clear hgd;go_enter Tryz.func115,Tryz.ntmps115;go_upto_region 5 with fail
     go_cut [47] (fun v wc=>v=.bool false∧wc=w)
     case first=>
      rcases Hgd.out with hgd | ⟨hgd,hge⟩
      all_goals
       rw[hgd] at v3;clear hgd;go_wp2_with fail;go_meet
       exact⟨rfl,rfl⟩
     case rest=>
      obtain⟨rfl,rfl⟩:=hcut;clear Hgd;go_wp2_with fail;refine HLa.out.mono ?_;rintro e w1 ⟨rfl,hb1⟩;have hS1:=HS.out.later hb1;obtain⟨w2,hw2⟩:∃w2,w2=w1.alloc (.cells #[.int .u64 ((s.lo:Nat):Int),.int .u64 ((s.hi:Nat):Int)] 99):=⟨_,rfl⟩;have hb2:Below w1.heap.size w1 w2:=by rw[hw2];exact(Below.refl _ _).alloc (Nat.le_refl _) _
      have hX:Row w2 w1.heap.size 99 [.int .u64 ((s.lo:Nat):Int),.int .u64 ((s.hi:Nat):Int)]:=by rw[hw2];exact zcd _ _ _
      have hS2:=hS1.later hb2;have x0:=hX.cell 0 rfl;have x1:=hX.cell 1 rfl;have p6:=hS2.row.cell 6 rfl;rw[←Hn.out] at p6;have cS2:w2.cell? ⟨gk,x*2,none⟩=some S:=(hb2.cell (p:=⟨gk,x*2,none⟩) (Nat.lt_of_lt_of_le (ze cS) hb1.size)).trans ((hb1.cell (p:=⟨gk,x*2,none⟩) (ze cS)).trans cS);have hal:∀o,Below w2.heap.size w2 (w2.alloc o):=fun o=>(Below.refl _ _).alloc (Nat.le_refl _) o
      have p6o:=fun o=>((hal o).cell (p:=⟨R,6,none⟩) (ze p6)).trans p6
      have cSo:=fun o=>((hal o).cell (p:=⟨gk,x*2,none⟩) (ze cS2)).trans cS2
      have HS2:=hid hS2;have HS2n:=hid (show SRows w2 base R L (zbj B) (.slice (some ⟨gk,0,none⟩) n kc) U C B (sgC s.left 2 last s.tch) (jw C 0 lo0 (some (s.lo,s.hi)) false) s.ix s.vs s.l from by rw[Hn.out];exact hS2);have hseg2:=hS2.seg;rw[←Hn.out] at hseg2;have hbw2:base≤w2.heap.size:=by have:=hS2.row.lt;omega
      have Hb2:=hid (Hb0.out.trans ((hb1.mono Hbw.out).trans (hb2.mono (Nat.le_trans Hbw.out hb1.size))));have hll:s.l.length+1≤1000000000000:=by have:=HF.out.ll;have:=Hq.out;have:=HE.out;omega
      have Hll:=hid hll;have Hli:=hid HF.out.li;clear hb1 hb2 hX hS1 hS2 hal q6 q8 hll cS;go_wp2_with fail;rw[←hw2];clear hw2;have HRw:=hid (show base≤gk from Hgk.out);go_cut [] (fun wc=>Hid (IRows w2 wc base R L (zbj B) (.slice (some ⟨gk,0,none⟩) n kc) U C B (sgC s.left 2 last s.tch) (jw C 0 lo0 (some (s.lo,s.hi)) false) s.ix (s.ix++[x]) s.vs (s.l++[(s.lo,s.hi)])))
      case first=>
       go_region_law (first
        | (refine z7q rfl (.tmp 70) (.tmp 72) rfl rfl hseg2 Hn.out Hli.out hxn cS2 (s.lo,s.hi) ?hW hbw2 rfl _ _ rfl (yg (zg _ _ _ (by simp)) rfl rfl) Hll.out ?_
           case hW=>repeat (first | exact Below.refl _ _ | refine Below.alloc ?_ (by simp) _ | refine Below.drew ?_ | refine ye ?_ _)
           intro gS m cS' w4 hO;have hq4:=hO.cell;have hf4:=hO.frozen;have p6w:=(hO.row R _ _ HS2.out.row (by decide)).cell 6 rfl;rw[←Hn.out] at p6w;have HO:=hid hO;clear hO))
       all_goals
        go_wp2;go_meet
        exact HO.out.rows HS2n.out HRw.out
      case rest=>
       have HI:=hid hcut.out;have hU3:=hcut.out.used;have q7:=hcut.out.row.cell 7 rfl;have hxi:x<9223372036854775808:=by omega
       have hil:s.ix.length<9223372036854775807:=by have:=HF.out.ll;have:=HF.out.li;have:=Hq.out;have:=HE.out;omega
       have hbc:=Hb2.out.trans hcut.out.below;have Hbc:=hid hbc;have Hbwc:=hid (show base≤wc.heap.size by have:=hcut.out.row.lt;omega);clear hcut hseg2 cS2 cSo p6o p6 hbc;obtain⟨k,hk⟩:∃k,k=s.left:=⟨_,rfl⟩;rw[←hk] at HI;have Hk:=hid hk;have hk0:=Hleft.out;have hk1:=HF.out.left;rw[←hk] at hk0 hk1;obtain⟨k1,hkk⟩:∃k1,k1=k - 1:=⟨_,rfl⟩;have hkw:IntKind.u64.wrap ((k:Int) - 1)=(k1:Int):=by rw[IntKind.wrap_u64];omega
       have Hkk:=hid hkk;by_cases hl1:k=1
       · have hz:((k1:Int) == 0)=true:=by rw[beq_iff_eq];omega
         have Hv:=hid (Hvv.out.trans (if_pos (by rw[←Hk.out];exact hl1)));have hpq:IntKind.i64.wrap ((p:Int)+((jx x).length:Int))=(q:Int):=by have:=Hq.out;have:=HqE.out;have:=HE.out;rw[IntKind.wrap_i64];omega
         have HSz:=hid (fun W=>zmm x W Hx.out);obtain⟨fr,hfr⟩:∃fr,fr=k9 E { s with l:=s.l++[(s.lo,s.hi)],ix:=s.ix++[x],left:=0,turn:=0 } q:=⟨_,rfl⟩;rw[←hfr] at Hv
         have HFn:=hid (fun K U C W h1 h2 h3 h4 h5 h6=>hfr ▸ zu7 base R L { s with l:=s.l++[(s.lo,s.hi)],ix:=s.ix++[x],left:=0,turn:=0 } (zbj B) K U C E q W h1 h2 h3 h4 h5 h6 (by simp[HF.out.li]) (by
          intro i hi;simp only[List.mem_append,List.mem_singleton] at hi;rcases hi with hi | rfl
          · exact HF.out.ix i hi
          · have:=Hn.out;exact this ▸ hxn) (by have:=HE.out;omega) HqE.out)
         clear hk hk0 hk1 hkk hl1 hfr;go_wp2_with (at_mapUpdate;refine zuy rfl _ _ _ rfl U s.ix hU3 x hxi hil rfl rfl rfl ?_;intro w5 hu5 hg5;have hS5:=HI.out.map hu5 hg5 rfl;have t2:=hS5.srow.cell 2 rfl;have y2:=hS5.srow.fz 2;have t0:=hS5.srow.cell 0 rfl;have y0:=hS5.srow.fz 0;have HS7:=hid ((hS5.setB 2 (.int .i64 (x:Int))).setB 0 (.int .u64 (k1:Int)));have Hb7:=hid (((Hbc.out.grown hg5 Hbwc.out (fun k hk=>by injection hk with hk;omega)).setCell (p:=⟨B,2,none⟩) hB0 (.int .i64 (x:Int))).setCell (p:=⟨B,0,none⟩) hB0 (.int .u64 (k1:Int)));clear hu5 hg5 hS5);refine(HSz.out _).mono ?_;rintro e w6 ⟨rfl,rfl⟩;go_wp2_with fail;refine(HFn.out _ U C _ hR0 hU hC HS7.out.row HS7.out.used (by have:=HS7.out.seg;exact this)).mono ?_;rintro e w6 ⟨hb6,hr6⟩
         cases fr with
         | error c=>
          obtain⟨rfl,hr6⟩:=hr6;go_wp2_with fail;go_ret
          exact⟨Hb7.out.trans hb6,by rw[Hv.out];exact⟨rfl,hr6⟩⟩
         | ok s'=>
          obtain⟨rfl,hr6⟩:=hr6;go_wp2_with fail;go_ret;exact⟨Hb7.out.trans hb6,by rw[Hv.out];exact⟨rfl,hr6⟩⟩
       · have hz:((k1:Int) == 0)=false:=by rw[beq_eq_false_iff_ne];omega
         have Hv:=hid (Hvv.out.trans (if_neg (by rw[←Hk.out];exact hl1)));clear hk hk0 hk1 hkk hl1;go_wp2_with (at_mapUpdate;refine zuy rfl _ _ _ rfl U s.ix hU3 x hxi hil rfl rfl rfl ?_;intro w5 hu5 hg5;have hS5:=HI.out.map hu5 hg5 rfl;have t2:=hS5.srow.cell 2 rfl;have y2:=hS5.srow.fz 2;have t0:=hS5.srow.cell 0 rfl;have y0:=hS5.srow.fz 0;have t1:=hS5.srow.cell 1 rfl;have y1:=hS5.srow.fz 1;have HS7:=hid (((hS5.setB 2 (.int .i64 (x:Int))).setB 0 (.int .u64 (k1:Int))).setB 1 (.int .i64 0));have Hb7:=hid ((((Hbc.out.grown hg5 Hbwc.out (fun k hk=>by injection hk with hk;omega)).setCell (p:=⟨B,2,none⟩) hB0 (.int .i64 (x:Int))).setCell (p:=⟨B,0,none⟩) hB0 (.int .u64 (k1:Int))).setCell (p:=⟨B,1,none⟩) hB0 (.int .i64 0));clear hu5 hg5 hS5);go_ret;refine⟨Hb7.out,?_⟩;rw[Hv.out];refine⟨rfl,SRows.wkr (lo0:=lo0) (K:=.slice (some ⟨gk,0,none⟩) n kc) (last:=(x:Int)) (touch:=s.tch) (s:={ s with l:=s.l++[(s.lo,s.hi)],ix:=s.ix++[x],left:=s.left - 1,turn:=0 }) ?_ Ht.out hR0 hU hC hB0 (fun y hy=>?_) (fun h=>?_) rfl⟩
         · have:=HS7.out;rw[show s.left - 1=k1 from by rw[Hkk.out,Hk.out]];simp only[cuC,List.getLast?_append,List.getLast?_singleton,Option.some_or];exact this
         · simp at hy;rw[hy]
         · exact absurd h (by simp)
end
section
open Go.RowKit
attribute [local go_sem] vq
theorem KV.row {w w':World} {base g:Nat} {K:Value} {vs:List Vec} {T:TypeId} {C:List Value} (h:KV w base K vs) (hR:Row w g T C) (hT:¬zc6 T:=by rintro(h | h | h) <;> cases h) (hg:w.grownBy w' (some g)):KV w' base K vs:=h.grown (hR.notT hT) hg
section
variable {P:Program} {T xT t:TypeId} {z:Value}
theorem zlx (hu:(P.underlying T).map (fun u=>match u with | .interface _=>false | _=>true)=some true) (v:Value) (xT:TypeId) (w:World):(Instr.typeAssert (.iface T v) xT T true).run P w=.ok (.tuple #[v,.bool true]) w:=by
 obtain⟨u,hu,hn⟩:=Option.map_eq_some_iff.1 hu;cases u <;> first | (simp at hn;done) | simp[Instr.typeAssert,run_underlying hu]
theorem zhc (hu:(P.underlying T).map (fun u=>match u with | .interface _=>false | _=>true)=some true) (hz:(P.info? T).map (·.zero)=some (some z)) (hne:t≠T) (v:Value) (xT:TypeId) (w:World):(Instr.typeAssert (.iface t v) xT T true).run P w=.ok (.tuple #[z,.bool false]) w:=by
 obtain⟨u,hu,hn⟩:=Option.map_eq_some_iff.1 hu;obtain⟨j,hj,hz⟩:=Option.map_eq_some_iff.1 hz;cases u <;> first | (simp at hn;done) | simp[Instr.typeAssert,run_underlying hu,hne,zeroValue,typeInfo,hj,hz]
end
theorem Tryz.taS0 (v:Value) (xT:TypeId) (w:World):(Instr.typeAssert (.iface 116 v) xT 116 true).run Tryz.prog w=.ok (.tuple #[v,.bool true]) w:=zlx (by kernel_rfl) v xT w
theorem Tryz.taM2 (v:Value) (xT:TypeId) (w:World):(Instr.typeAssert (.iface 190 v) xT 190 true).run Tryz.prog w=.ok (.tuple #[v,.bool true]) w:=zlx (by kernel_rfl) v xT w
theorem Tryz.taV1 (v:Value) (xT:TypeId) (w:World):(Instr.typeAssert (.iface 186 v) xT 186 true).run Tryz.prog w=.ok (.tuple #[v,.bool true]) w:=zlx (by kernel_rfl) v xT w
theorem Tryz.taG3 (v:Value) (xT:TypeId) (w:World):(Instr.typeAssert (.iface 192 v) xT 192 true).run Tryz.prog w=.ok (.tuple #[v,.bool true]) w:=zlx (by kernel_rfl) v xT w
theorem Tryz.taV0 (v:Value) (xT:TypeId) (w:World):(Instr.typeAssert (.iface 186 v) xT 116 true).run Tryz.prog w=.ok (.tuple #[.agg #[],.bool false]) w:=zhc (by kernel_rfl) (by kernel_rfl) (by decide) v xT w
theorem Tryz.taM0 (v:Value) (xT:TypeId) (w:World):(Instr.typeAssert (.iface 190 v) xT 116 true).run Tryz.prog w=.ok (.tuple #[.agg #[],.bool false]) w:=zhc (by kernel_rfl) (by kernel_rfl) (by decide) v xT w
theorem Tryz.taM1 (v:Value) (xT:TypeId) (w:World):(Instr.typeAssert (.iface 190 v) xT 186 true).run Tryz.prog w=.ok (.tuple #[.pointer none,.bool false]) w:=zhc (by kernel_rfl) (by kernel_rfl) (by decide) v xT w
theorem Tryz.taG0 (v:Value) (xT:TypeId) (w:World):(Instr.typeAssert (.iface 192 v) xT 116 true).run Tryz.prog w=.ok (.tuple #[.agg #[],.bool false]) w:=zhc (by kernel_rfl) (by kernel_rfl) (by decide) v xT w
theorem Tryz.taG1 (v:Value) (xT:TypeId) (w:World):(Instr.typeAssert (.iface 192 v) xT 186 true).run Tryz.prog w=.ok (.tuple #[.pointer none,.bool false]) w:=zhc (by kernel_rfl) (by kernel_rfl) (by decide) v xT w
theorem Tryz.taG2 (v:Value) (xT:TypeId) (w:World):(Instr.typeAssert (.iface 192 v) xT 190 true).run Tryz.prog w=.ok (.tuple #[.agg #[],.bool false]) w:=zhc (by kernel_rfl) (by kernel_rfl) (by decide) v xT w
attribute [local go_sem] Tryz.taS0 Tryz.taM2 Tryz.taV1 Tryz.taG3 Tryz.taV0 Tryz.taM0 Tryz.taM1 Tryz.taG0 Tryz.taG1 Tryz.taG2
theorem zi0 {w:World} {R U C:Nat} {L:zt} {part part' K:Value} {ix:List Nat} {Cu:List Value} {base:Nat} {vs:List Vec} (hR:Row w R 123 (wkC L part K U C .nilIface)) (hu:UsedM w U ix) (hc:Row w C 183 Cu) (hK:KV w base K vs):
 Row (w.setCell ⟨R,5,none⟩ part') R 123 (wkC L part' K U C .nilIface)∧UsedM (w.setCell ⟨R,5,none⟩ part') U ix∧Row (w.setCell ⟨R,5,none⟩ part') C 183 Cu∧KV (w.setCell ⟨R,5,none⟩ part') base K vs:=by
 have g:=za7 w R 5 part';exact⟨hR.set 5 _,hu.grownT hR g,hc.grown g (fun e=>by injection e with e;exact hR.ne hc (by decide) e.symm),hK.grown (hR.notT (by rintro(h | h | h) <;> cases h)) g⟩
structure StepOk (L:zt) (s:WS) (E x p q:Nat):Prop where
 lims:LimsI L
 xb:x<18446744073709551616
 qp:q=p+(jx x).length
 qe:q≤E
 eb:E<900000000000
 fit:WFit s p
 inv:WInv s
 tch:zfy s
 tag:s.tag<4
 vf:∀v∈s.vs,VecFits v
 vi:s.tag=1→∀i,qb L.2.2.1 L.2.2.2.1 s.inner x (E - q)=.ok i→i.tag=6→VecFits i.v
theorem zwp {E:Nat} {L:zt} {s:WS} {x p q:Nat} (ht:s.tag=3):qm E L s x p q=match s.turn with | 0=>zwe s p (loP (jv s.l) 0 x) | 1=>zlt s p x | _=>zdu E s p q x:=by
 obtain⟨tag,vs,l,ix,left,frm,inner,turn,lo,hi,tch⟩:=s;simp only at ht;subst ht;rcases turn with _ | _ | k <;> rfl
set_option maxRecDepth 20000 in
theorem z7s (base R:Nat) (L:zt) (s:WS) (E x p q:Nat) (w0 w:World) (hb0:Below base w0 w) (h:WkR w base R L s) (hD:Door w) (hDb:0<base) (ho:StepOk L s E x p q):
 Calls Tryz.prog 65 #[.pointer (some ⟨R,0,none⟩),.int .u64 (x:Int),.int .i64 (p:Int),.int .i64 ((E - q:Nat):Int)] w (WkS w0 base R L (qm E L s x p q)):=by
 obtain⟨hR0,part,K,U,C,hU,hC,hR,hu,hB⟩:=h;have q5:=hR.cell 5 rfl;obtain⟨hL,hx,hq,hqE,hE,hF,hI,hT,h4,hvf,hvi⟩:=ho;have hrst:E - q<9223372036854775808:=by omega
 have Hb0:=hid hb0;have Hx:=hid hx;have Hq:=hid hq;have HqE:=hid hqE;have HE:=hid hE;have HF:=hid hF;have HI:=hid hI;have HT:=hid hT;have HD:=hid hD;have Hvf:=hid hvf;have Hvi:=hid hvi;have HR:=hid hR;have Hu:=hid hu;have HL:=hid hL;have Hbw:=hid (show base≤w.heap.size by have:=hR.lt;omega);clear hx hq hqE hE hF hI hT hvf hvi hD hb0;rcases ht:s.tag with _ | _ | _ | _ | k
 ·
  have Ht:=hid ht;unfold WkB at hB;simp only[ht] at hB;obtain⟨rfl,hK,hcu⟩:=hB;have HK:=hid hK;have Hcu:=hid hcu;have HLim:=hid (fun W=>zu6 x L.2.1 (E - q) W Hx.out HL.out.b hrst);have HA:=hid (fun W (hb:Below w.heap.size w W)=>And.intro (hR.later hb) (And.intro (hu.same (hb.block U hu.lt)) (And.intro (hcu.later hb) (hK.later hb))));have hal:=fun o=>(Below.refl w.heap.size w).alloc (Nat.le_refl _) o
  have hal2:=fun o o'=>(hal o).alloc (by simp) o'
  have p1:=fun o=>(HA.out (w.alloc o) (hal o)).1.cell 1 rfl
  have p5:=fun o=>(HA.out (w.alloc o) (hal o)).1.cell 5 rfl
  have pp5:=fun o o'=>(HA.out ((w.alloc o).alloc o') (hal2 o o')).1.cell 5 rfl
  have y5:=fun o o'=>(HA.out ((w.alloc o).alloc o') (hal2 o o')).1.fz 5
  have HAl:=hid hal2
  have hwst:qm E L s x p q=if yz x L.2.1 (E - q)≠0 then .error (yz x L.2.1 (E - q),p) else if x=0 then .ok { s with tag:=2 } else .ok { s with tag:=1,left:=x,inner:=ps0 }:=by
   unfold qm;simp only[ht]
  obtain⟨c,hc⟩:∃c,c=yz x L.2.1 (E - q):=⟨_,rfl⟩;rw[←hc] at hwst HLim;have HEb:=hid (zcd (w.alloc (.cells #[] 116)) 189 [.int .u64 (x:Int),.int .i64 (-1),.pointer none]);clear hc hR hu hK hcu hL hrst h4 ht hal hal2;by_cases hc0:c=0
  · subst hc0;rw[if_neg (by simp)] at hwst;by_cases hx0:x=0
    · rw[if_pos hx0] at hwst;have Hwst:=hid hwst;have hxz:((x:Int) == 0)=true:=by rw[beq_iff_eq];omega
      clear hwst hx0;go_enter Tryz.func65,Tryz.ntmps65;go_wp2_with fail;refine(HLim.out _).mono ?_;rintro e w' ⟨rfl,rfl⟩;go_wp2_with fail;go_ret;obtain⟨r,u,cu,k⟩:=HA.out _ (HAl.out (.cells #[] 116) (.cells #[.int .u64 (x:Int),.int .i64 (-1),.pointer none] 189));obtain⟨r2,u2,cu2,k2⟩:=zi0 (part':=.iface 186 (.pointer (some ⟨w.heap.size+1,0,none⟩))) r u cu k;have b2:=Hb0.out.trans (((HAl.out (.cells #[] 116) (.cells #[.int .u64 (x:Int),.int .i64 (-1),.pointer none] 189)).mono Hbw.out).setCell (p:=⟨R,5,none⟩) hR0 (.iface 186 (.pointer (some ⟨w.heap.size+1,0,none⟩))));have he:=HEb.out;rw[World.size_alloc] at he;have he2:=he.grown (za7 _ R 5 (.iface 186 (.pointer (some ⟨w.heap.size+1,0,none⟩)))) (fun e=>by injection e with e;exact r.ne he (by decide) e.symm);obtain⟨r3,u3,cu3,k3⟩:=zi0 (part':=.iface 190 (.agg #[])) r2 u2 cu2 k2;exact⟨b2.setCell (p:=⟨R,5,none⟩) hR0 _,by rw[Hwst.out];exact⟨rfl,hR0,_,K,U,C,hU,hC,r3,u3,rfl,k3,cu3⟩⟩
    · rw[if_neg hx0] at hwst;have Hwst:=hid hwst;have hxz:((x:Int) == 0)=false:=by rw[beq_eq_false_iff_ne];omega
      clear hwst hx0;go_enter Tryz.func65,Tryz.ntmps65;go_wp2_with fail;refine(HLim.out _).mono ?_;rintro e w' ⟨rfl,rfl⟩;go_wp2_with fail;go_ret;obtain⟨r,u,cu,k⟩:=HA.out _ (HAl.out (.cells #[] 116) (.cells #[.int .u64 (x:Int),.int .i64 (-1),.pointer none] 189));obtain⟨r2,u2,cu2,k2⟩:=zi0 (part':=.iface 186 (.pointer (some ⟨w.heap.size+1,0,none⟩))) r u cu k;have b2:=Hb0.out.trans (((HAl.out (.cells #[] 116) (.cells #[.int .u64 (x:Int),.int .i64 (-1),.pointer none] 189)).mono Hbw.out).setCell (p:=⟨R,5,none⟩) hR0 (.iface 186 (.pointer (some ⟨w.heap.size+1,0,none⟩))));have he:=HEb.out;rw[World.size_alloc] at he;have he2:=he.grown (za7 _ R 5 (.iface 186 (.pointer (some ⟨w.heap.size+1,0,none⟩)))) (fun e=>by injection e with e;exact r.ne he (by decide) e.symm);exact⟨b2,by rw[Hwst.out];exact⟨rfl,hR0,_,K,U,C,hU,hC,r2,u2,w.heap.size+1,rfl,by have:=Hbw.out;omega,cu2,.inl ⟨rfl,⟨_,he2⟩,k2⟩⟩⟩
  · rw[if_pos hc0] at hwst;have Hwst:=hid hwst;have hcz:((c:Int) == 0)=false:=by rw[beq_eq_false_iff_ne];omega
    have HN:=hid (fun W=>zb7 (c:=c) (o:=p) hc0 W);have HAo:=hid (HA.out (w.alloc (.cells #[] 116)) ((Below.refl _ _).alloc (Nat.le_refl _) _));clear hwst hc0;go_enter Tryz.func65,Tryz.ntmps65;go_wp2_with fail;refine(HLim.out _).mono ?_;rintro e w' ⟨rfl,rfl⟩;go_wp2_with fail;refine(HN.out _).mono ?_;rintro e w' ⟨rfl,rfl⟩;go_wp2_with fail;go_ret;exact⟨Hb0.out.trans ((Below.refl base w).alloc Hbw.out _),by rw[Hwst.out];exact⟨rfl,_,HAo.out.1,rfl⟩⟩
 ·
  have Ht:=hid ht;unfold WkB at hB;simp only[ht] at hB;obtain⟨B,rfl,hB0,hcu,hV⟩:=hB;obtain⟨res,hres⟩:∃res,qm E L s x p q=res:=⟨_,rfl⟩;rw[hres];have HC:=hid ((zv0 ht).symm.trans hres ▸ z60 base R L s K U C B (E - q) x p w0 w ht hR0 hU hC hB0 Hb0.out hR hu hcu hV HD.out hDb hL Hx.out hrst (by have:=Hq.out;have:=HqE.out;have:=HE.out;omega) HF.out HI.out Hvf.out (Hvi.out ht) _ rfl);clear hV hcu hR hu hL hrst h4 ht;clear hres;go_enter Tryz.func65,Tryz.ntmps65;go_wp2_with fail;refine HC.out.mono ?_;rintro e w' ⟨hb,hr⟩
  cases res with
  | error c=>
   obtain⟨rfl,hr⟩:=hr;go_wp2_with fail;go_ret
   exact⟨hb,rfl,hr⟩
  | ok s'=>
   obtain⟨rfl,hr⟩:=hr;go_wp2_with fail;go_ret;exact⟨hb,rfl,hr⟩
 ·
  have Ht:=hid ht;unfold WkB at hB;simp only[ht] at hB;obtain⟨rfl,hK,hcu⟩:=hB;have HK:=hid hK;have Hcu:=hid hcu;have HLim:=hid (fun W=>zu6 x L.2.2.2.2 (E - q) W Hx.out HL.out.e hrst);have HA:=hid (fun W (hb:Below w.heap.size w W)=>And.intro (hR.later hb) (And.intro (hu.same (hb.block U hu.lt)) (And.intro (hcu.later hb) (hK.later hb))));have hal:=fun o=>(Below.refl w.heap.size w).alloc (Nat.le_refl _) o
  have hal2:=fun o o'=>(hal o).alloc (by simp) o'
  have p1:=fun o=>(HA.out (w.alloc o) (hal o)).1.cell 4 rfl
  have p5:=fun o=>(HA.out (w.alloc o) (hal o)).1.cell 5 rfl
  have pp5:=fun o o'=>(HA.out ((w.alloc o).alloc o') (hal2 o o')).1.cell 5 rfl
  have y5:=fun o o'=>(HA.out ((w.alloc o).alloc o') (hal2 o o')).1.fz 5
  have HAl:=hid hal2
  have hwst:qm E L s x p q=if yz x L.2.2.2.2 (E - q)≠0 then .error (yz x L.2.2.2.2 (E - q),p) else if x=0 then k9 E s q else .ok { s with tag:=3,left:=x,turn:=0 }:=by
   unfold qm;simp only[ht]
  obtain⟨c,hc⟩:∃c,c=yz x L.2.2.2.2 (E - q):=⟨_,rfl⟩;rw[←hc] at hwst HLim;have HEb:=hid (zcd (w.alloc (.cells #[] 190)) 194 [.int .u64 (x:Int),.int .i64 0,.int .i64 0,.bool false]);clear hc hR hu hK hcu hL hrst h4 ht hal hal2;by_cases hc0:c=0
  · subst hc0;rw[if_neg (by simp)] at hwst;obtain⟨hl0,hx0'⟩:=HI.out.none (by rw[Ht.out];decide);by_cases hx0:x=0
    · rw[if_pos hx0] at hwst;have hxz:((x:Int) == 0)=true:=by rw[beq_iff_eq];omega
      have hpq:IntKind.i64.wrap ((p:Int)+((jx x).length:Int))=(q:Int):=by have:=Hq.out;have:=HqE.out;have:=HE.out;rw[IntKind.wrap_i64];omega
      have HSz:=hid (fun W=>zmm x W Hx.out);obtain⟨fr,hfr⟩:∃fr,fr=k9 E s q:=⟨_,rfl⟩;rw[←hfr] at hwst;have Hwst:=hid hwst;have HFn:=hid (fun W h1 h2 h3 h4 h5 h6=>hfr ▸ zu7 base R L s (zbj (w.heap.size+1)) K U C E q W h1 h2 h3 h4 h5 h6 HF.out.li HF.out.ix (by have:=HE.out;omega) HqE.out);have Hl0:=hid hl0;have Hx0':=hid hx0';clear hwst hx0 hfr hl0 hx0';go_enter Tryz.func65,Tryz.ntmps65;go_wp2_with fail;refine(HLim.out _).mono ?_;rintro e w' ⟨rfl,rfl⟩;go_wp2_with fail;refine(HSz.out _).mono ?_;rintro e w6 ⟨rfl,rfl⟩;go_wp2_with fail;obtain⟨r,u,cu,k⟩:=HA.out _ (HAl.out (.cells #[] 190) (.cells #[.int .u64 (x:Int),.int .i64 0,.int .i64 0,.bool false] 194));obtain⟨r2,u2,cu2,k2⟩:=zi0 (part':=zbj (w.heap.size+1)) r u cu k;have b2:=Hb0.out.trans (((HAl.out (.cells #[] 190) (.cells #[.int .u64 (x:Int),.int .i64 0,.int .i64 0,.bool false] 194)).mono Hbw.out).setCell (p:=⟨R,5,none⟩) hR0 (zbj (w.heap.size+1)));have he:=HEb.out;rw[World.size_alloc] at he;have he2:=he.grown (za7 _ R 5 (zbj (w.heap.size+1))) (fun e=>by injection e with e;exact r.ne he (by decide) e.symm);have HB2:=hid b2;refine(HFn.out _ hR0 hU hC r2 u2 (by rw[Hl0.out,Hx0'.out];exact k2.seg (by simp;have:=Hbw.out;omega))).mono ?_;clear r u cu k r2 u2 cu2 k2 b2 he he2;rintro e w6 ⟨hb6,hr6⟩
      cases fr with
      | error c=>
       obtain⟨rfl,hr6⟩:=hr6;go_wp2_with fail;go_ret
       exact⟨HB2.out.trans hb6,by rw[Hwst.out];exact⟨rfl,hr6⟩⟩
      | ok s'=>
       obtain⟨rfl,hr6⟩:=hr6;go_wp2_with fail;go_ret;exact⟨HB2.out.trans hb6,by rw[Hwst.out];exact⟨rfl,hr6⟩⟩
    · rw[if_neg hx0] at hwst;have Hwst:=hid hwst;have hxz:((x:Int) == 0)=false:=by rw[beq_eq_false_iff_ne];omega
      have Hl0:=hid hl0;have Hx0':=hid hx0';clear hwst hx0 hl0 hx0';go_enter Tryz.func65,Tryz.ntmps65;go_wp2_with fail;refine(HLim.out _).mono ?_;rintro e w' ⟨rfl,rfl⟩;go_wp2_with fail;go_ret;obtain⟨r,u,cu,k⟩:=HA.out _ (HAl.out (.cells #[] 190) (.cells #[.int .u64 (x:Int),.int .i64 0,.int .i64 0,.bool false] 194));obtain⟨r2,u2,cu2,k2⟩:=zi0 (part':=zbj (w.heap.size+1)) r u cu k;have b2:=Hb0.out.trans (((HAl.out (.cells #[] 190) (.cells #[.int .u64 (x:Int),.int .i64 0,.int .i64 0,.bool false] 194)).mono Hbw.out).setCell (p:=⟨R,5,none⟩) hR0 (zbj (w.heap.size+1)));have he:=HEb.out;rw[World.size_alloc] at he;have he2:=he.grown (za7 _ R 5 (zbj (w.heap.size+1))) (fun e=>by injection e with e;exact r.ne he (by decide) e.symm);refine⟨b2,?_⟩;rw[Hwst.out];refine⟨rfl,hR0,_,K,U,C,hU,hC,r2,u2,w.heap.size+1,rfl,by have:=Hbw.out;omega,?_,0,false,0,he2,fun y hy=>?_,fun h=>?_,?_⟩
      · show SegM _ _ _ s.vs s.l s.ix;rw[Hl0.out,Hx0'.out];exact k2.seg (by simp;have:=Hbw.out;omega)
      · simp[Hx0'.out] at hy
      · simp at h
      · simp only[cuC,Hl0.out];exact cu2
  · rw[if_pos hc0] at hwst;have Hwst:=hid hwst;have hcz:((c:Int) == 0)=false:=by rw[beq_eq_false_iff_ne];omega
    have HN:=hid (fun W=>zb7 (c:=c) (o:=p) hc0 W);have HAo:=hid (HA.out (w.alloc (.cells #[] 190)) ((Below.refl _ _).alloc (Nat.le_refl _) _));clear hwst hc0;go_enter Tryz.func65,Tryz.ntmps65;go_wp2_with fail;refine(HLim.out _).mono ?_;rintro e w' ⟨rfl,rfl⟩;go_wp2_with fail;refine(HN.out _).mono ?_;rintro e w' ⟨rfl,rfl⟩;go_wp2_with fail;go_ret;exact⟨Hb0.out.trans ((Below.refl base w).alloc Hbw.out _),by rw[Hwst.out];exact⟨rfl,_,HAo.out.1,rfl⟩⟩
 ·
  have Ht:=hid ht;unfold WkB at hB;simp only[ht] at hB;obtain⟨B,rfl,hB0,hM,last,touch,lo0,hrow,hla,hto,hcu⟩:=hB;obtain⟨res,hres⟩:∃res,qm E L s x p q=res:=⟨_,rfl⟩
  have HC:Hid (Calls Tryz.prog 115 #[.pointer (some ⟨R,0,none⟩),.pointer (some ⟨B,0,none⟩),.int .u64 (x:Int),.int .i64 (p:Int),.int .i64 ((E - q:Nat):Int)] w (WkS w0 base R L res)):=by
   refine hid ?_;rw[←hres,zwp ht];have htu:=HI.out.turn;rcases hu3:s.turn with _ | _ | _ | k
   · simp only[cuC,hu3] at hcu;rw[hu3] at hrow;exact z7f base R L s K U C B (E - q) x p lo0 last touch w0 w ht hR0 hU hC hB0 Hb0.out hu3 ⟨hR,hrow,hcu,hu,hM⟩ hla HF.out.l Hx.out _ rfl
   · simp only[cuC,hu3] at hcu;rw[hu3] at hrow;exact z7g base R L s K U C B (E - q) x p last touch w0 w ht hR0 hU hC hB0 Hb0.out ⟨hR,hrow,hcu,hu,hM⟩ hla (hto (by omega)) HF.out.lo Hx.out
   · simp only[cuC,hu3] at hcu;rw[hu3] at hrow;refine z7r base R L s K U C B E x p q lo0 last touch w0 w ht hR0 hU hC hB0 Hb0.out ⟨hR,hrow,hcu,hu,hM⟩ hla (hto (by omega)) (fun h e=>?_) HF.out (HI.out.left (.inr ht)) Hx.out Hq.out HqE.out HE.out;have:=HT.out (by omega) h;have h2:=HF.out.li;rw[e] at h2;exact this (List.length_eq_zero_iff.1 h2.symm)
   · omega
  rw[hres];clear hres hM hrow hla hto hcu hR hu hL hrst h4 ht;go_enter Tryz.func65,Tryz.ntmps65;go_wp2_with fail;refine HC.out.mono ?_;rintro e w' ⟨hb,hr⟩
  cases res with
  | error c=>
   obtain⟨rfl,hr⟩:=hr;go_wp2_with fail;go_ret
   exact⟨hb,rfl,hr⟩
  | ok s'=>
   obtain⟨rfl,hr⟩:=hr;go_wp2_with fail;go_ret;exact⟨hb,rfl,hr⟩
 · omega
end
end Go.Proofs.YtdnjfnofjaoajaaGreatDoor
