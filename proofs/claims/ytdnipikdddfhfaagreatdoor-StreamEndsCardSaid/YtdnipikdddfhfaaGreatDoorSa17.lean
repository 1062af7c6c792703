/- Part 17. -/
import Derived.Test.YtdnipikdddfhfaaGreatDoorSa16
set_option linter.unusedVariables false
set_option maxHeartbeats 16000000
namespace Go.Proofs.YtdnipikdddfhfaaGreatDoor
open Lib (hid)
section
def vk {α:Type} (E:Nat) (a:RR α):Prop:=match a with | .error e=>e.2≤E∧e.1≠0 | .ok y=>y.2≤E
structure TokE (T:zl) (E:Nat):Prop where
 ok:∀p x q,T p=.ok (x,q)→q≤E
 error:∀p c,T p=.error c→c≠0
theorem kf {α β:Type} {E:Nat} {a:RR α} {f:α→Nat→RR β} (h:vk E a) (hf:∀x q,q≤E→vk E (f x q)):vk E (thn a f):=by
 cases a with
 | error e=>exact h
 | ok y=>exact hf y.1 y.2 h
theorem zb6 {α:Type} {E:Nat} {c:Prop} [Decidable c] {a b:RR α} (h1:vk E a) (h2:vk E b):vk E (if c then a else b):=by split <;> assumption
variable {T:zl} {E:Nat}
theorem zde (h:TokE T E) {p:Nat} (hp:p≤E):vk E (nmP T p):=by
 unfold nmP
 cases hT:T p with
 | error c=>exact⟨hp,h.error p c hT⟩
 | ok y=>exact h.ok p y.1 y.2 hT
theorem zfs (h:TokE T E) (lim:Int) {p:Nat} (hp:p≤E):vk E (zv T E lim p):=kf (zde h hp) fun x q hq=>by
 split
 · exact hq
 · rename_i h1;exact⟨hp,h1⟩
theorem zvg (h:TokE T E) (lo:Nat) {q:Nat} (hq:q≤E):vk E (hiP T lo q):=kf (zde h hq) fun x r hr=>zb6 hr ⟨hq,by simp⟩
theorem zvh (lo:Nat) {q r:Nat} {s:Iv×Nat} (h:hiP T lo q=.ok (s,r)):s.2=q:=by
 unfold hiP at h;obtain⟨x,r',-,h2⟩:=qv h;split at h2
 · cases h2;rfl
 · cases h2
theorem zne (h:TokE T E) (prev:Option Nat) (a:Nat) {p:Nat} (hp:p≤E):vk E (ivP T prev a p):=kf (zde h hp) fun x q hq=>by
 cases loP prev a x with
 | none=>exact⟨hp,by simp⟩
 | some lo=>exact zvg h lo hq
theorem zvi (h:TokE T E) {prev:Option Nat} {a p r:Nat} {s:Iv×Nat} (hv:ivP T prev a p=.ok (s,r)):s.2≤E:=by
 unfold ivP at hv;obtain⟨x,q,h1,h2⟩:=qv hv
 cases hlo:loP prev a x with
 | none=>rw[hlo] at h2;cases h2
 | some lo=>rw[hlo] at h2;rw[zvh lo h2];exact h.ok _ _ _ (zb4 h1)
theorem zvj {α β:Type} {a:RR α} {f:α→Nat→RR β} (h:vk E a) (hf:∀x q,a=.ok (x,q)→q≤E→vk E (f x q)):vk E (thn a f):=by
 cases a with
 | error e=>exact h
 | ok y=>exact hf y.1 y.2 rfl h
theorem znf (h:TokE T E) (mx:Nat):∀n acc {p:Nat},p≤E→vk E (qa T mx n acc p)
 | 0,acc,p,hp=>hp
 | n+1,acc,p,hp=>by
   rw[qa];refine zvj (zne h _ _ hp) fun s q hs hq=>?_
   unfold kq;exact zb6 ⟨zvi h hs,by simp⟩ (znf h mx n _ hq)
theorem zng (h:TokE T E) (lim:Int):∀n acc {p:Nat},p≤E→vk E (y8 T E lim n acc p)
 | 0,acc,p,hp=>hp
 | n+1,acc,p,hp=>by
   rw[y8];refine kf (kf (zde h hp) fun x q hq=>?_) fun e q hq=>zng h lim n _ hq
   cases jv acc x with
   | none=>exact⟨hp,by simp⟩
   | some r=>exact kf (zde h hq) fun mx q hq=>kf (zfs h lim hq) fun n q hq=>kf (znf h mx n [] hq) fun _ _ hq=>hq
theorem znh (h:TokE T E) (le lh:Int):∀n acc {p:Nat},p≤E→vk E (qf T E le lh n acc p)
 | 0,acc,p,hp=>hp
 | n+1,acc,p,hp=>by
   rw[qf];refine kf (kf (zfs h le hp) fun n q hq=>zb6 ⟨hp,by simp⟩ (zng h lh n [] hq)) fun v q hq=>zb6 ⟨hp,by simp⟩ (znh h le lh n _ hq)
theorem zni (h:TokE T E) (N:Nat):∀m l ix {p:Nat},p≤E→vk E (y9 T N m l ix p)
 | 0,l,ix,p,hp=>hp
 | m+1,l,ix,p,hp=>by
   rw[y9];refine kf (zne h _ _ hp) fun s q hq=>kf (zde h hq) fun x r hr=>zb6 ⟨hq,by simp⟩ (zb6 ⟨hq,by simp⟩ (zni h N m _ _ hr))
theorem znj (h:TokE T E) (L:za) {p:Nat} (hp:p≤E):vk E (yd T E L p):=
 kf (zfs h _ hp) fun n q hq=>kf (znh h _ _ n [] hq) fun vs q hq=>kf (zfs h _ hq) fun m q hq=>kf (zni h _ m [] [] hq) fun s q hq=>zb6 ⟨hq,by simp⟩ (zb6 ⟨hq,by simp⟩ hq)
theorem zvk {l:List Nat} (hl:∀c∈l,c<256):Fwd (qs l):=fun p x q h=>(zb2 hl h).1
theorem zvl {l:List Nat} (hl:∀c∈l,c<256):T64 (qs l):=fun p x q h=>(zb2 hl h).2.2.1
theorem znk {l:List Nat} (hl:∀c∈l,c<256):TokE (qs l) l.length:=⟨fun p x q h=>(zb2 hl h).2.1,fun p c h=>by
 unfold qs at h;split at h
 · cases h
 · cases h;decide
 · cases h;decide⟩
def zaq (L:za) (l:List Nat):RR Kno:=yd (qs l) l.length L 0
theorem zvm (ns:List Nat):∀c∈ja ns,c<256:=fun c hc=>by
 unfold ja at hc;obtain⟨x,-,hx⟩:=List.mem_flatMap.1 hc;exact zim x c hx
theorem zvn {L:za} {c:Kno} (hc:CanK c) (hK:EncK c) (t:List Nat) (ht:∀x∈t,x<256):
 (okK L c→zaq L (ja (jj c)++t)=if 0<t.length then .error (11,(ja (jj c)).length) else .ok (c,(ja (jj c)).length))∧(¬okK L c→∃w,zaq L (ja (jj c)++t)=.error (7,w)):=by
 have hl:∀x∈ja (jj c)++t,x<256:=fun x hx=>by
  rcases List.mem_append.1 hx with h | h
  · exact zvm _ x h
  · exact ht x h
 have hr:=zlh (l:=ja (jj c)++t) (ns:=jj c) (t:=t) (p:=0) (zs3 hK) rfl;rw[Nat.zero_add] at hr;obtain⟨h1,h2⟩:=zut (E:=(ja (jj c)++t).length) (L:=L) (zvk hl) hc hK.lt hr (by rw[List.length_append];omega);refine⟨fun h=>?_,h2⟩;unfold zaq;rw[h1 h,List.length_append];by_cases h0:0<t.length
 · rw[if_pos h0,if_pos (by omega)]
 · rw[if_neg h0,if_neg (by omega)]
theorem zvo {L:za} {l:List Nat} (hl:∀c∈l,c<256) {c:Kno} {q:Nat} (h:zaq L l=.ok (c,q)):CanK c∧LtK c∧okK L c∧ja (jj c)=l∧q=l.length:=by
 obtain⟨h1,h2,h3,h4,h5⟩:=znb (zvl hl) h
 have hq:q=l.length:=by
  have:=znj (znk hl) L (p:=0) (Nat.zero_le _);have e:yd (qs l) l.length L 0=.ok (c,q):=h;rw[e] at this;exact Nat.le_antisymm this h5
 refine⟨h1,h2,h3,?_,hq⟩;have:=zhg hl h4;rw[hq,List.drop_length,List.append_nil] at this;exact this.symm
theorem zy7 {L:za} {l:List Nat} (hl:∀c∈l,c<256) {e:Nat×Nat} (h:zaq L l=.error e):e.2≤l.length∧e.1≠0:=by
 have:=znj (znk hl) L (p:=0) (Nat.zero_le _);have e':yd (qs l) l.length L 0=.error e:=h;rw[e'] at this;exact this
abbrev unl:za:=(9223372036854775807,9223372036854775807,9223372036854775807,9223372036854775807,9223372036854775807)
theorem zft {n:Nat} (h:n≤100000):okC n 9223372036854775807:=.inl (by omega)
theorem zvp {c:Kno} (hK:EncK c):(ze c).length≤1000:=by
 have h2:=zg4 c c.length (Nat.le_refl _);rw[List.take_length] at h2;have:=hK.sum;unfold ze;omega
theorem znl {c:Kno} (hK:EncK c):okK unl c:=
 ⟨zft (by have:=hK.len;omega),fun i hi=>⟨zft (by have:=(hK.vec _ (j8 hi)).len;omega),fun j hj=>zft (by have:=(hK.vec _ (j8 hi)).holes _ (zc3 hj);omega)⟩,zft (by have:=zvp hK;omega)⟩
theorem znm {c:Kno} (hK:EncK c) {L:za} (h:okK L c):zaq L (ja (jj c))=.ok (c,(ja (jj c)).length):=by
 have:=(zvn (L:=L) hK.can hK [] (fun x hx=>(by cases hx))).1 h;rw[List.append_nil] at this;exact this
theorem zy8 {a b:Kno} (ka:EncK a) (kb:EncK b) (h:ja (jj a)=ja (jj b)):a=b:=by
 have h1:=znm ka (znl ka);have h2:=znm kb (znl kb);rw[h,h2] at h1;injection h1 with h1;injection h1 with h1 _;exact h1.symm
theorem zfu:∀(l:List Nat) (n j x:Nat),zj (l.take n) j x=zj l j x∨(zj (l.take n) j x).1=0
 | [],n,j,x=>by rw[List.take_nil];exact .inl rfl
 | c :: l,0,j,x=>.inr rfl
 | c :: l,n+1,j,x=>by
   rw[List.take_succ_cons,zj,zj];split
   · exact .inl rfl
   · split
     · exact .inl rfl
     · exact zfu l n _ _
theorem zvq (l:List Nat) (n p:Nat):qs (l.take n) p=qs l p∨qs (l.take n) p=.error 5:=by
 unfold qs;rw[List.drop_take];rcases zfu (l.drop p) (n - p) 0 0 with h | h
 · rw[h];exact .inl rfl
 · refine .inr ?_;generalize zj ((l.drop p).take (n - p)) 0 0=s at h;obtain⟨a,b,d⟩:=s;simp only at h;subst h
   rfl
theorem zy9 {L:za} {l:List Nat} (hl:∀c∈l,c<256) {c:Kno} {q n:Nat} (h:zaq L l=.ok (c,q)) (hn:n<l.length):∃w,zaq L (l.take n)=.error (5,w):=by
 obtain⟨-,-,-,-,hq⟩:=zvo hl h;have hl':∀c∈l.take n,c<256:=fun c hc=>hl c (List.mem_of_mem_take hc)
 have e:(l.take n).length=n:=by rw[List.length_take];omega
 have:=zu3 (T:=qs l) (T':=qs (l.take n)) (E:=l.length) (E':=n) ⟨fun p=>zvq l n p,.inr ⟨rfl,by omega⟩⟩ (fun p x q h=>by have:=(zb2 hl' h).2.1;omega) L (Nat.zero_le _) h (by omega);unfold zaq;rw[e];exact this
end
section
open Go.RowKit
theorem zvr (w:World):Calls Tryz.prog 43 #[] w fun e w'=>e=.returned (lmV unl)∧Below w.heap.size w w':=by
 go_enter Tryz.func43,Tryz.ntmps43;go_wp2_with fail;refine bodyPost_ret (results_cell_row rfl _ _ w.heap.size 24 #[.int .i64 9223372036854775807,.int .i64 9223372036854775807,.int .i64 9223372036854775807,.int .i64 9223372036854775807,.int .i64 9223372036854775807] (0,0) _ rfl (heap_alloc_new w _) Tryz.underlying24 rfl (by kernel_rfl)) rfl ?_;exact⟨rfl,(Below.refl _ _).alloc (Nat.le_refl _) _⟩
theorem znn:LimsI unl:=⟨⟨by decide,by decide⟩,⟨by decide,by decide⟩,⟨by decide,by decide⟩,⟨by decide,by decide⟩,⟨by decide,by decide⟩⟩
end
section
def yu (l:List Nat) (p:Nat) (most:Int):Except (Nat×Nat) (Nat×Nat):=
 match ji l p with
 | some e=>.error e
 | none=>match zj (l.drop (p+5)) 0 0 with
   | (1,x,j)=>if max most 0<(x:Int) then .error (7,p+5) else .ok (p+5+j,x)
   | (2,_,_)=>.error (6,p+5)
   | _=>.error (5,p)
def qg (l:List Nat) (L:za) (p:Nat):RR Kno:=
 match yu l p L.1 with
 | .error e=>if e.1=5 then .error (0,p) else .error e
 | .ok y=>match yd (zb l (y.1+y.2)) (y.1+y.2) L y.1 with
   | .error e=>if e.1=0 then .error (0,p) else .error e
   | .ok k=>if l.length<y.1+y.2+4 then .error (0,p)
     else if qu (sum ((l.drop y.1).take y.2))=(l.drop (y.1+y.2)).take 4 then .ok (k.1,y.1+y.2+4) else .error (14,y.1+y.2)
def ku (l:List Nat) (L:za):List Kno→List Nat→Nat→Nat→Prop
 | [],[],p,q=>p=q
 | k :: ks,e :: es,p,q=>qg l L p=.ok (k,e)∧ku l L ks es e q
 | _,_,_,_=>False
def vy (l:List Nat) (L:za) (ks:List Kno) (es:List Nat) (e:Nat×Nat):Prop:=∃q,ku l L ks es 0 q∧qg l L q=.error e
theorem zht {l:List Nat} {L:za} {k:Kno} {r:Nat}:∀{ks:List Kno} {es:List Nat} {p q:Nat},ku l L ks es p q→qg l L q=.ok (k,r)→ku l L (ks++[k]) (es++[r]) p r
 | [],[],p,q,h,h1=>by
   have h:p=q:=h;subst h
   exact⟨h1,rfl⟩
 | k' :: ks,e :: es,p,q,h,h1=>⟨h.1,zht h.2 h1⟩
 | [],_ :: _,_,_,h,_=>h.elim
 | _ :: _,[],_,_,h,_=>h.elim
theorem zb7 {l:List Nat} (hl:∀c∈l,c<256) {p s n:Nat} {most:Int} (h:yu l p most=.ok (s,n)):p+6≤s∧s≤l.length∧s≤p+15∧(n:Int)≤max most 0∧ji l p=none∧s=p+5+(yf n).length∧yf n=(l.drop (p+5)).take (yf n).length:=by
 unfold yu at h
 cases hb:ji l p with
 | some e=>rw[hb] at h;cases h
 | none=>
  rw[hb] at h;simp only at h;obtain⟨a,x,j,hs⟩:∃a x j,zj (l.drop (p+5)) 0 0=(a,x,j):=⟨_,_,_,rfl⟩;rw[hs] at h;rcases a with _ | _ | _ | a
  · cases h
  · simp only at h;split at h
    · cases h
    · injection h with h;injection h with h1 h2;subst h1 h2;obtain⟨b1,b2,b3,b4⟩:=zlg (fun c hc=>hl c (List.mem_of_mem_drop hc)) hs;have b5:(yf x).length≤9+1:=zcv 9 x;have b6:(yf x).length=j:=by rw[b4,List.length_take];omega
      rw[List.length_drop] at b3;exact⟨by omega,by omega,by omega,by omega,rfl,by rw[b6],by rw[b6];exact b4⟩
  · cases h
  · cases h
theorem zvs {l:List Nat} (hl:∀c∈l,c<256) (E:Nat):T64 (zb l E):=fun p x q h=>(ve hl h).2.2.2.1
theorem zno {T T':zl} (h:∀p y,T p=.ok y→T' p=.ok y):∀{ns:List Nat} {p q:Nat},yt T p ns q→yt T' p ns q
 | [],p,q,r=>r
 | x :: ns,p,q,r=>by
   obtain⟨y,r1,r2⟩:=r;exact⟨y,h _ _ r1,zno h r2⟩
theorem zhu {T:zl} {E:Nat} (h:∀p x q,T p=.ok (x,q)→q≤E):∀{ns:List Nat} {p q:Nat},yt T p ns q→ns≠[]→q≤E
 | [],p,q,r,hn=>absurd rfl hn
 | x :: ns,p,q,r,hn=>by
   obtain⟨y,r1,r2⟩:=r
   cases ns with
   | nil=>have r2:y=q:=r2;rw[←r2];exact h _ _ _ r1
   | cons z ns=>exact zhu h r2 (by simp)
theorem znp (c:Kno):jj c≠[]:=by
 intro h;have:=congrArg List.length h;unfold jj at this;rw[List.length_append] at this
 have h1:∀d,1≤(vx c d).length:=by
  intro d
  induction d with
  | zero=>simp[vx]
  | succ d ih=>rw[vx,List.length_append];omega
 have h2:=h1 c.length;rw[List.length_nil] at this;omega
theorem znq {l:List Nat} (hl:∀c∈l,c<256) {E s q:Nat} {L:za} {k:Kno} (h:yd (zb l E) E L s=.ok (k,q)):q=E∧E≤l.length∧CanK k∧LtK k∧okK L k∧ja (jj k)=(l.drop s).take (E - s):=by
 obtain⟨h1,h2,h3,h4,h5⟩:=znb (zvs hl E) h;have h6:=zhu (E:=E) (fun p x q h=>(ve hl h).2.2.1) h4 (znp k);have h7:=zhu (E:=l.length) (fun p x q h=>(ve hl h).2.1) h4 (znp k);obtain rfl:q=E:=Nat.le_antisymm h6 h5;have h8:=zhg (l:=l.take q) (fun c hc=>hl c (List.mem_of_mem_take hc)) (zno (fun p y h=>zlq h) h4);rw[show (l.take q).drop q=[] from List.drop_eq_nil_of_le (by rw[List.length_take];omega),List.append_nil,List.drop_take] at h8;exact⟨rfl,h7,h1,h2,h3,h8.symm⟩
theorem zhv {f g:Nat→Option (Nat×Nat)} {z:Nat×Nat} (h:∀i,f i=some z∨g i=f i):∀is:List Nat,is.findSome? f=some z∨is.findSome? g=is.findSome? f
 | []=>.inr rfl
 | i :: is=>by
   rw[List.findSome?_cons,List.findSome?_cons];rcases h i with e | e
   · rw[e];exact .inl rfl
   · rw[e]
     cases f i with
     | some x=>exact .inr rfl
     | none=>exact zhv h is
theorem zhw {l u:List Nat} {i:Nat} (h:i<l.length):nth (l++u) i=nth l i:=by simp[nth,List.getElem?_append_left h]
theorem znr (l u:List Nat) (p i:Nat):j7 l p i=some (5,p)∨j7 (l++u) p i=j7 l p i:=by
 by_cases h:l.length≤p+i
 · exact .inl (zgd h)
 · refine .inr ?_;unfold j7;rw[if_neg h,if_neg (by rw[List.length_append];omega),zhw (by omega)]
theorem zvt (l u:List Nat) (p:Nat):((l++u).drop p).take (l.length - p)=l.drop p:=by
 rw[←List.drop_take,List.take_left]
theorem zns (l u:List Nat) (p:Nat) (most:Int):yu l p most=.error (5,p)∨yu (l++u) p most=yu l p most:=by
 rcases zhv (znr l u p) [0,1,2,3,4] with h | h
 · refine .inl ?_;unfold yu ji;rw[h]
 · have h:ji (l++u) p=ji l p:=h;unfold yu;rw[h]
   cases ji l p with
   | some e=>exact .inr rfl
   | none=>
    simp only;have hs:=zfu ((l++u).drop (p+5)) (l.length - (p+5)) 0 0;rw[zvt] at hs;rcases hs with hs | hs
    · rw[hs];exact .inr rfl
    · refine .inl ?_;generalize zj (l.drop (p+5)) 0 0=s at hs;obtain⟨a,x,j⟩:=s;simp only at hs;subst hs
      rfl
theorem zvu (l u:List Nat) (E:Nat):Cut 0 (zb (l++u) E) (zb l E) E E:=by
 refine⟨fun p=>?_,.inl rfl⟩;by_cases hE:E≤l.length
 · refine .inl ?_;unfold zb;rw[List.take_append_of_le_length hE,if_pos hE,if_pos (by rw[List.length_append];omega)]
 · have hs:=zfu (((l++u).take E).drop p) (l.length - p) 0 0;rw[←List.drop_take,List.take_take,Nat.min_eq_left (by omega),List.take_left] at hs;unfold zb;rw[List.take_of_length_le (show l.length≤E by omega),if_neg hE];generalize zj (l.drop p) 0 0=s at*;obtain⟨a,x,j⟩:=s;rcases hs with hs | hs
   · rw[←hs];rcases a with _ | _ | _ | a
     · exact .inr rfl
     · exact .inl rfl
     · exact .inl rfl
     · exact .inr rfl
   · simp only at hs;subst hs;exact .inr rfl
theorem znt (l u:List Nat) (L:za) (p:Nat):qg l L p=.error (0,p)∨qg (l++u) L p=qg l L p:=by
 unfold qg;rcases zns l u p L.1 with h | h
 · rw[h];exact .inl rfl
 · rw[h]
   cases hh:yu l p L.1 with
   | error e=>exact .inr rfl
   | ok y=>
    obtain⟨s,n⟩:=y;simp only;rcases zu2 (zvu l u (s+n)) L s with hd | ⟨w,hd⟩
    · rw[hd]
      cases yd (zb (l++u) (s+n)) (s+n) L s with
      | error e=>exact .inr rfl
      | ok k=>
       simp only;by_cases hlen:l.length<s+n+4
       · rw[if_pos hlen];exact .inl rfl
       · rw[if_neg hlen,if_neg (show ¬(l++u).length<s+n+4 by rw[List.length_append];omega)];refine .inr ?_
         have e1:((l++u).drop s).take n=(l.drop s).take n:=by
          rw[List.drop_append_of_le_length (by omega),List.take_append_of_le_length (by rw[List.length_drop];omega)]
         have e2:((l++u).drop (s+n)).take 4=(l.drop (s+n)).take 4:=by
          rw[List.drop_append_of_le_length (by omega),List.take_append_of_le_length (by rw[List.length_drop];omega)]
         rw[e1,e2]
    · rw[hd];exact .inl rfl
theorem zei {l:List Nat} (u:List Nat) {L:za}:∀{ks:List Kno} {es:List Nat} {p q:Nat},ku l L ks es p q→ku (l++u) L ks es p q
 | [],[],p,q,h=>h
 | k :: ks,e :: es,p,q,h=>by
   refine⟨?_,zei u h.2⟩;rcases znt l u L p with h1 | h1
   · have:=h.1;rw[h1] at this;cases this
   · rw[h1];exact h.1
 | [],_ :: _,_,_,h=>h.elim
 | _ :: _,[],_,_,h=>h.elim
end
section
open Go.RowKit
attribute [local go_sem] yq
theorem wk0 {w:World} {base R U C:Nat} {L:za} (hR:Row w R 130 (wkC L (.iface 123 (.agg #[])) (.slice none 0 0) U C .nilIface)) (hU:UsedM w U []) (hC:Row w C 193 (qk C 0 0 none false)) (b1:base≤R) (b2:base≤U) (b3:base≤C):WkR w base R L ws0:=
 ⟨b1,_,_,U,C,b2,b3,hR,hU,rfl,zl0 _ _,hC⟩
set_option maxRecDepth 20000 in
theorem zvv (L:za) (w:World):Calls Tryz.prog 25 #[lmV L] w fun e w'=>∃R,e=.returned (.pointer (some ⟨R,0,none⟩))∧WkR w' w.heap.size R L ws0∧Below w.heap.size w w':=by
 unfold lmV;have HS:=hid (fun W=>zli 0 W);have hmm:=@run_makeMap Tryz.prog;have hX:=yo w 24 [.int .i64 L.1,.int .i64 L.2.1,.int .i64 L.2.2.1,.int .i64 L.2.2.2.1,.int .i64 L.2.2.2.2];have HX:=hid hX
 have HLim:=hid (fun W W' (h1:Below (w.heap.size+1) (w.alloc (.cells #[.int .i64 L.1,.int .i64 L.2.1,.int .i64 L.2.2.1,.int .i64 L.2.2.2.1,.int .i64 L.2.2.2.2] 24)) W) (h2:Below W.heap.size W W')=>
  have h:=(hX.below h1 (by omega)).later h2
  And.intro (h.cell 0 rfl) (And.intro (h.cell 1 rfl) (And.intro (h.cell 2 rfl) (And.intro (h.cell 3 rfl) (h.cell 4 rfl)))))
 clear hX;go_enter Tryz.func25,Tryz.ntmps25;go_wp2;go_region_law (go_simp;go_at_call 68;refine(HS.out _).mono ?_;rintro e w1 ⟨rfl,hr1,hb1⟩;obtain⟨l0,l1,l2,l3,l4⟩:=HLim.out _ w1 (by repeat (first | exact Below.refl _ _ | refine Below.alloc ?_ (by simp) _ | refine Below.drew ?_ | refine zq ?_ _)) hb1;have ho:=fun o=>HLim.out _ (w1.alloc o) (by repeat (first | exact Below.refl _ _ | refine Below.alloc ?_ (by simp) _ | refine Below.drew ?_ | refine zq ?_ _)) (hb1.alloc hb1.size o);have o0:=fun o=>(ho o).1;have o1:=fun o=>(ho o).2.1;have o2:=fun o=>(ho o).2.2.1;have o3:=fun o=>(ho o).2.2.2.1;have o4:=fun o=>(ho o).2.2.2.2;clear ho;have Hr1:=hid hr1;have Hb1:=hid hb1;clear hr1 hb1)
 all_goals go_wp2
 all_goals go_ret
 all_goals clear HLim HX HS hmm l0 l1 l2 l3 l4 o0 o1 o2 o3 o4
 all_goals first
  | (have hb:=Hb1.out
     have hr:=Hr1.out
     have hU:UsedM w1 (w.heap.size+1) []:=by
      have h0:=zls (w.alloc (.cells #[.int .i64 L.1,.int .i64 L.2.1,.int .i64 L.2.2.1,.int .i64 L.2.2.2.1,.int .i64 L.2.2.2.2] 24));rw[World.size_alloc] at h0;exact h0.same (hb.block _ (by simp))
     have hz:=hb.size;simp at hz;simp at hr;have hal:=(Below.refl w1.heap.size w1).alloc (Nat.le_refl _) (.cells #[.int .i64 L.1,.int .i64 L.2.1,.int .i64 L.2.2.1,.int .i64 L.2.2.2.1,.int .i64 L.2.2.2.2,.iface 123 (.agg #[]),.slice none 0 0,.map (some (w.heap.size+1)),.pointer (some ⟨w.heap.size+1+1,0,none⟩),.nilIface] 130)
     exact⟨_,rfl,wk0 (yo w1 _ _) (hU.same (hal.block _ hU.lt)) (hr.later hal) (by omega) (by omega) (by omega),(Below.trans (by repeat (first | exact Below.refl _ _ | refine Below.alloc ?_ (by simp) _ | refine Below.drew ?_ | refine zq ?_ _)) (hb.mono (by simp;omega))).trans (hal.mono (by omega))⟩)
  | (have hb:=Hb1.out
     have hr:=Hr1.out;have hz:=hb.size;simp at hr;simp at hz;have hU:UsedM (w1.alloc (.map #[] 0)) w1.heap.size []:=zls w1;have hm:=(Below.refl w1.heap.size w1).alloc (Nat.le_refl _) (.map #[] 0);have hal:=(Below.refl (w1.alloc (.map #[] 0)).heap.size (w1.alloc (.map #[] 0))).alloc (Nat.le_refl _) (.cells #[.int .i64 L.1,.int .i64 L.2.1,.int .i64 L.2.2.1,.int .i64 L.2.2.2.1,.int .i64 L.2.2.2.2,.iface 123 (.agg #[]),.slice none 0 0,.map (some w1.heap.size),.pointer (some ⟨w.heap.size+1,0,none⟩),.nilIface] 130);have hrow:=yo (w1.alloc (.map #[] 0)) 130 [.int .i64 L.1,.int .i64 L.2.1,.int .i64 L.2.2.1,.int .i64 L.2.2.2.1,.int .i64 L.2.2.2.2,.iface 123 (.agg #[]),.slice none 0 0,.map (some w1.heap.size),.pointer (some ⟨w.heap.size+1,0,none⟩),.nilIface];rw[World.size_alloc] at hrow;exact⟨_,rfl,wk0 hrow (hU.same (hal.block _ hU.lt)) ((hr.later hm).later hal) (by omega) (by omega) (by omega),(Below.trans (by repeat (first | exact Below.refl _ _ | refine Below.alloc ?_ (by simp) _ | refine Below.drew ?_ | refine zq ?_ _)) (hb.mono (by simp))).trans ((hm.mono (by omega)).trans (hal.mono (by simp;omega)))⟩)
end
section
open Go.RowKit
attribute [local go_sem] yq
def kg (B:Nat):Value:=.iface 202 (.pointer (some ⟨B,0,none⟩))
structure SRows (w:World) (base R:Nat) (L:za) (part K:Value) (U C B:Nat) (S Cu:List Value) (ix:List Nat) (vs:List Vec) (l:List Iv):Prop where
 row:Row w R 130 (wkC L part K U C .nilIface)
 srow:Row w B 204 S
 cur:Row w C 193 Cu
 used:UsedM w U ix
 seg:SegM w base K vs l ix
section
variable {w w':World} {base R:Nat} {L:za} {part K:Value} {U C B:Nat} {S Cu:List Value} {ix:List Nat} {vs:List Vec} {l:List Iv}
theorem SRows.later (h:SRows w base R L part K U C B S Cu ix vs l) (hb:Below w.heap.size w w'):SRows w' base R L part K U C B S Cu ix vs l:=
 ⟨h.row.later hb,h.srow.later hb,h.cur.later hb,h.used.same (hb.block U h.used.lt),h.seg.later hb⟩
theorem SRows.setB (h:SRows w base R L part K U C B S Cu ix vs l) (i:Nat) (v:Value):SRows (w.setCell ⟨B,i,none⟩ v) base R L part K U C B (S.set i v) Cu ix vs l:=by
 have g:=zm w B i v;exact⟨h.row.grown g (fun e=>by injection e with e;exact h.row.ne h.srow (by decide) e),h.srow.set i v,h.cur.grown g (fun e=>by injection e with e;exact h.srow.ne h.cur (by decide) e.symm),h.used.grownT h.srow g,h.seg.grown (h.srow.notT (by rintro(h | h | h) <;> cases h)) g⟩
theorem SRows.curs (h:SRows w base R L part K U C B S Cu ix vs l) {Cu':List Value} (hc:Row w' C 193 Cu') (g:w.grownBy w' (some C)):SRows w' base R L part K U C B S Cu' ix vs l:=
 ⟨h.row.grown g (fun e=>by injection e with e;exact h.row.ne h.cur (by decide) e),h.srow.grown g (fun e=>by injection e with e;exact h.srow.ne h.cur (by decide) e),hc,h.used.grownT h.cur g,h.seg.grown (h.cur.notT (by rintro(h | h | h) <;> cases h)) g⟩
end
theorem SRows.wkr {w:World} {base R:Nat} {L:za} {K:Value} {U C B:Nat} {last:Int} {touch:Bool} {lo0:Nat} {s:WS} {Cu:List Value} (h:SRows w base R L (kg B) K U C B (sgC s.left s.turn last touch) Cu s.ix s.vs s.l) (ht:s.tag=3) (hR:base≤R) (hU:base≤U) (hC:base≤C) (hB:base≤B)
 (h1:∀x,s.ix.getLast?=some x→last=(x:Int)) (h2:1≤s.turn→touch=s.tch) (h3:Cu=cuC C lo0 s):WkR w base R L s:=by
 refine⟨hR,_,K,U,C,hU,hC,h.row,h.used,?_⟩;unfold WkB;simp only[ht];exact⟨B,rfl,hB,h.seg,last,touch,lo0,h.srow,h1,h2,by rw[←h3];exact h.cur⟩
def znu (s:WS) (p:Nat) (r:Option Nat):Except (Nat×Nat) WS:=match r with | none=>.error (8,p) | some lo=>.ok { s with turn:=1,lo:=lo,tch:=v8 s.l lo }
theorem zvw {l:List Iv} {x z:Nat} (h:loP (zp l) 0 x=some z):v8 l z=(l.getLast?.isSome && decide (x=0)):=by
 unfold v8 zp at*
 cases hg:l.getLast? with
 | none=>rfl
 | some t=>
  rw[hg] at h;simp only[Option.map,loP] at h;split at h
  · injection h with h;subst h;simp only[Option.map,Option.isSome,Bool.true_and];rw[Bool.eq_iff_iff];simp only[decide_eq_true_eq];omega
  · cases h
set_option maxRecDepth 100000 in
theorem zvx (base R:Nat) (L:za) (s:WS) (K:Value) (U C B rest x p lo0:Nat) (last:Int) (touch:Bool) (w0 w:World) (ht:s.tag=3) (hR0:base≤R) (hU:base≤U) (hC:base≤C) (hB0:base≤B) (hb0:Below base w0 w) (htu:s.turn=0)
 (hS:SRows w base R L (kg B) K U C B (sgC s.left 0 last touch) (qk C 0 lo0 s.l.getLast? false) s.ix s.vs s.l) (hla:∀x,s.ix.getLast?=some x→last=(x:Int)) (hl:yi s.l) (hx:x<18446744073709551616) (r:Option Nat) (hr:loP (zp s.l) 0 x=r):
 Calls Tryz.prog 113 #[.pointer (some ⟨R,0,none⟩),.pointer (some ⟨B,0,none⟩),.int .u64 (x:Int),.int .i64 (p:Int),.int .i64 (rest:Int)] w (WkS w0 base R L (znu s p r)):=by
 have Ht:=hid ht;have Htu:=hid htu;have Hla:=hid hla;have Hx:=hid hx;have Hl:=hid hl;have Htc:=hid (fun z (h:r=some z)=>zvw (hr.trans h));have Hr:=hid hr;have HS:=hid hS;have Hb0:=hid hb0;have HLa:=hid (zlv C 0 lo0 s.l.getLast? false w hS.cur);have hbw:base≤w.heap.size:=by have:=hS.row.lt;omega
 have Hbw:=hid hbw;have q8:=hS.row.cell 8 rfl;have v1:w.cell? ⟨B,1,none⟩=some (.int .i64 0):=hS.srow.cell 1 rfl;clear ht htu hla hx hl hr hS hb0 hbw;generalize hg:s.l.getLast?.isSome=b at*;have Hg:=hid hg;clear hg;generalize hz:s.l.getLast?.getD (0,0)=z0 at*;clear hz;obtain⟨z1,z2⟩:=z0;unfold ivV at HLa;simp only at HLa
 cases r with
 | none=>
  have HN:=hid (fun W=>k7 (c:=8) (o:=p) (by decide) W);cases b
  all_goals
   by_cases hx0:x=0
  all_goals
   have hx1:((x:Int) == 0)=decide (x=0):=by
    rw[Bool.eq_iff_iff,beq_iff_eq,decide_eq_true_iff];omega
   first
    | rw[decide_eq_true hx0] at hx1
    | rw[decide_eq_false hx0] at hx1
   have Hx0:=hid (show decide (x=0)=decide (x=0) from rfl)
   first
    | rw[show decide (x=0)=true from decide_eq_true hx0] at Htc
    | rw[show decide (x=0)=false from decide_eq_false hx0] at Htc
   clear hx0 Hx0;go_enter Tryz.func113,Tryz.ntmps113;go_wp2_with fail;refine HLa.out.mono ?_;rintro e w1 ⟨rfl,hb1⟩;have hS1:=(HS.out.later hb1).later ((Below.refl w1.heap.size w1).alloc (Nat.le_refl _) (.cells #[.int .u64 (z1:Int),.int .u64 (z2:Int)] 89));have s3:=hS1.srow.cell 3 rfl;have y3:=hS1.srow.fz 3;have HS2:=hid (fun tv=>show SRows ((w1.alloc (.cells #[.int .u64 (z1:Int),.int .u64 (z2:Int)] 89)).setCell ⟨B,3,none⟩ (.bool tv)) base R L (kg B) K U C B (sgC s.left 0 last tv) (qk C 0 lo0 s.l.getLast? false) s.ix s.vs s.l from hS1.setB 3 (.bool tv));have HLo:=hid (fun tv=>zhh C 0 lo0 x s.l.getLast? _ (HS2.out tv).cur (fun t ht=>(Hl.out t (List.mem_of_getLast? ht)).2) (by omega) Hx.out);have Hb2:=hid (fun tv=>Hb0.out.trans (((hb1.mono Hbw.out).trans ((Below.refl base w1).alloc (Nat.le_trans Hbw.out hb1.size) (.cells #[.int .u64 (z1:Int),.int .u64 (z2:Int)] 89))).setCell (p:=⟨B,3,none⟩) hB0 (.bool tv)));have p8:=hS1.row.cell 8 rfl;have hneB:=hS1.row.ne hS1.srow (by decide);clear hb1 hS1 q8 v1;unfold zp at Hr;rw[Hr.out] at HLo;go_wp2_with fail;refine(HLo.out _).mono ?_;rintro e w3 ⟨rfl,hc3,hg3⟩;have HS3:=hid ((HS2.out _).curs hc3 hg3);have Hb3:=hid ((Hb2.out _).grown hg3 (Nat.le_trans hR0 (Nat.le_of_lt (HS2.out _).row.lt)) (fun k hk=>by injection hk with hk;omega));clear hc3 hg3 s3 y3;go_wp2_with fail;refine(HN.out _).mono ?_;rintro e w' ⟨rfl,rfl⟩;go_wp2_with fail;go_ret
   exact⟨Hb3.out,rfl,_,HS3.out.row,rfl⟩
 | some z=>
  have Htz:=hid (Htc.out z rfl);cases b
  all_goals
   by_cases hx0:x=0
  all_goals
   have hx1:((x:Int) == 0)=decide (x=0):=by
    rw[Bool.eq_iff_iff,beq_iff_eq,decide_eq_true_iff];omega
   first
    | rw[decide_eq_true hx0] at hx1
    | rw[decide_eq_false hx0] at hx1
   have Hx0:=hid (show decide (x=0)=decide (x=0) from rfl)
   first
    | rw[show decide (x=0)=true from decide_eq_true hx0] at Htz
    | rw[show decide (x=0)=false from decide_eq_false hx0] at Htz
   clear hx0 Hx0;go_enter Tryz.func113,Tryz.ntmps113;go_wp2_with fail;refine HLa.out.mono ?_;rintro e w1 ⟨rfl,hb1⟩;have hS1:=(HS.out.later hb1).later ((Below.refl w1.heap.size w1).alloc (Nat.le_refl _) (.cells #[.int .u64 (z1:Int),.int .u64 (z2:Int)] 89));have s3:=hS1.srow.cell 3 rfl;have y3:=hS1.srow.fz 3;have HS2:=hid (fun tv=>show SRows ((w1.alloc (.cells #[.int .u64 (z1:Int),.int .u64 (z2:Int)] 89)).setCell ⟨B,3,none⟩ (.bool tv)) base R L (kg B) K U C B (sgC s.left 0 last tv) (qk C 0 lo0 s.l.getLast? false) s.ix s.vs s.l from hS1.setB 3 (.bool tv));have HLo:=hid (fun tv=>zhh C 0 lo0 x s.l.getLast? _ (HS2.out tv).cur (fun t ht=>(Hl.out t (List.mem_of_getLast? ht)).2) (by omega) Hx.out);have Hb2:=hid (fun tv=>Hb0.out.trans (((hb1.mono Hbw.out).trans ((Below.refl base w1).alloc (Nat.le_trans Hbw.out hb1.size) (.cells #[.int .u64 (z1:Int),.int .u64 (z2:Int)] 89))).setCell (p:=⟨B,3,none⟩) hB0 (.bool tv)));have p8:=hS1.row.cell 8 rfl;have hneB:=hS1.row.ne hS1.srow (by decide);clear hb1 hS1 q8 v1;unfold zp at Hr;rw[Hr.out] at HLo;go_wp2_with fail;refine(HLo.out _).mono ?_;rintro e w3 ⟨rfl,hc3,hg3⟩;have hS3:=(HS2.out _).curs hc3 hg3;have t1:w3.cell? ⟨B,1,none⟩=some (.int .i64 0):=hS3.srow.cell 1 rfl;have y1:=hS3.srow.fz 1;have HS4:=hid (hS3.setB 1 (.int .i64 1));have Hb3:=hid (((Hb2.out _).grown hg3 (Nat.le_trans hR0 (Nat.le_of_lt (HS2.out _).row.lt)) (fun k hk=>by injection hk with hk;omega)).setCell (p:=⟨B,1,none⟩) hB0 (.int .i64 1));clear hc3 hg3 s3 y3 hS3;go_wp2_with fail;go_ret;exact⟨Hb3.out,rfl,SRows.wkr (lo0:=0) (s:={ s with turn:=1,lo:=z,tch:=v8 s.l z }) HS4.out Ht.out hR0 hU hC hB0 Hla.out (fun _=>by rw[Htz.out];rfl) rfl⟩
def zfv (s:WS) (p x:Nat):Except (Nat×Nat) WS:=if s.lo+x<18446744073709551616 then .ok { s with turn:=2,hi:=s.lo+x } else .error (8,p)
set_option maxRecDepth 100000 in
theorem zvy (base R:Nat) (L:za) (s:WS) (K:Value) (U C B rest x p:Nat) (last:Int) (touch:Bool) (w0 w:World) (ht:s.tag=3) (hR0:base≤R) (hU:base≤U) (hC:base≤C) (hB0:base≤B) (hb0:Below base w0 w)
 (hS:SRows w base R L (kg B) K U C B (sgC s.left 1 last touch) (qk C 0 s.lo s.l.getLast? true) s.ix s.vs s.l) (hla:∀x,s.ix.getLast?=some x→last=(x:Int)) (hto:touch=s.tch) (hlo:s.lo<18446744073709551616) (hx:x<18446744073709551616):
 Calls Tryz.prog 113 #[.pointer (some ⟨R,0,none⟩),.pointer (some ⟨B,0,none⟩),.int .u64 (x:Int),.int .i64 (p:Int),.int .i64 (rest:Int)] w (WkS w0 base R L (zfv s p x)):=by
 have Ht:=hid ht;have Hla:=hid hla;have Hto:=hid hto;have HS:=hid hS;have Hb0:=hid hb0;have HHi:=hid (zlu C 0 s.lo x s.l.getLast? w hS.cur hlo hx);have Hbw:=hid (show base≤w.heap.size by have:=hS.row.lt;omega);have q8:=hS.row.cell 8 rfl;have v1:w.cell? ⟨B,1,none⟩=some (.int .i64 1):=hS.srow.cell 1 rfl;clear ht hla hto hS hb0 hlo hx;unfold zec at HHi;by_cases hc:s.lo+x<18446744073709551616
 · have HHi2:=hid (HHi.out.mono fun e w' h=>by rw[if_pos hc] at h;exact h);have Hv:=hid (show zfv s p x=.ok { s with turn:=2,hi:=s.lo+x } from if_pos hc);clear HHi hc;generalize hz:s.lo+x=z at*;clear hz;unfold ivV at HHi2;go_enter Tryz.func113,Tryz.ntmps113;go_wp2_with fail;refine HHi2.out.mono ?_;rintro e w1 ⟨rfl,hc1,hg1⟩;have hS1:=((HS.out).curs hc1 hg1).later ((Below.refl w1.heap.size w1).alloc (Nat.le_refl _) (.cells #[.int .u64 (s.lo:Int),.int .u64 (z:Int)] 89));have Hb1:=hid (((Hb0.out.grown hg1 (Nat.le_trans (by have:=Hb0.out.size;have:=Hbw.out;exact this) (Nat.le_refl _)) (fun k hk=>by injection hk with hk;omega)).alloc (by have:=Hbw.out;have:=hg1.size;omega) (.cells #[.int .u64 (s.lo:Int),.int .u64 (z:Int)] 89)).setCell (p:=⟨B,1,none⟩) hB0 (.int .i64 2));have t1:∀o,(w1.alloc o).cell? ⟨B,1,none⟩=some (.int .i64 1):=fun o=>(((HS.out).curs hc1 hg1).later ((Below.refl w1.heap.size w1).alloc (Nat.le_refl _) o)).srow.cell 1 rfl
   have y1:∀o,(w1.alloc o).frozen? ⟨B,1,none⟩=false:=fun o=>(((HS.out).curs hc1 hg1).later ((Below.refl w1.heap.size w1).alloc (Nat.le_refl _) o)).srow.fz 1
   have HS4:=hid (hS1.setB 1 (.int .i64 2));clear hc1 hg1 hS1 q8 v1;go_wp2_with fail;go_ret;exact⟨Hb1.out,by rw[Hv.out];exact⟨rfl,SRows.wkr (lo0:=s.lo) (s:={ s with turn:=2,hi:=z }) HS4.out Ht.out hR0 hU hC hB0 Hla.out (fun _=>Hto.out) rfl⟩⟩
 · have HHi2:=hid (HHi.out.mono fun e w' h=>by rw[if_neg hc] at h;exact h);have Hv:=hid (show zfv s p x=.error (8,p) from if_neg hc);have HN:=hid (fun W=>k7 (c:=8) (o:=p) (by decide) W);clear HHi hc;unfold ivV at HHi2;go_enter Tryz.func113,Tryz.ntmps113;go_wp2_with fail;refine HHi2.out.mono ?_;rintro e w1 ⟨rfl,hc1,hg1⟩;have HS1:=hid (fun o=>((HS.out).curs hc1 hg1).later ((Below.refl w1.heap.size w1).alloc (Nat.le_refl _) o));have Hb1:=hid (fun o=>(Hb0.out.grown hg1 (by have:=Hbw.out;exact this) (fun k hk=>by injection hk with hk;omega)).alloc (by have:=Hbw.out;have:=hg1.size;omega) o);clear hc1 hg1 q8 v1;go_wp2_with fail;refine(HN.out _).mono ?_;rintro e w' ⟨rfl,rfl⟩;go_wp2_with fail;go_ret;exact⟨Hb1.out _,by rw[Hv.out];exact⟨rfl,_,(HS1.out _).row,rfl⟩⟩
end
