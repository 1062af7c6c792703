/- Part 72. -/
import Derived.Test.YtmfhggnlainmiaaGreatDoorPk70
import Derived.Test.YtmfhggnlainmiaaGreatDoorPk68
set_option linter.unusedVariables false
set_option maxHeartbeats 16000000
namespace Go.Proofs.YtmfhggnlainmiaaGreatDoor
open Lib (hid)
section
open Go.RowKit
theorem yjt (a:Option Addr) (n cap:Nat) (k:Kno) (w:World) (hE:Frags w a n cap k):
 Calls Tryz.prog 66 #[.slice a n cap] w fun x w'=>x=.returned (.bool (decide (ckF k=none)))∧Below w.heap.size w w':=by
 have hC:=hid (zu4 a n cap k w hE);clear hE
 cases h:ckF k with
 | none=>
  rw[h] at hC;simp only[qk,je,j9] at hC;clear h;go_enter Tryz.func66,Tryz.ntmps66;go_wp2_with fail;refine hC.out.mono ?_;rintro e w1 ⟨rfl,hb1⟩;have Hb1:=hid hb1;clear hb1;go_wp2;go_ret
  exact⟨by simp,Hb1.out⟩
 | some x=>
  have hc0:=zm3 h;obtain⟨cd,i⟩:=x;rw[h] at hC;simp only[qk,je,j9] at hC;have hne:((cd:Int) == 0)=false:=by rw[beq_eq_false_iff_ne];simp at hc0;omega
  clear h hc0;go_enter Tryz.func66,Tryz.ntmps66;go_wp2_with fail;refine hC.out.mono ?_;rintro e w1 ⟨rfl,hb1⟩;have Hb1:=hid hb1;clear hb1;go_wp2;go_ret;exact⟨by simp,Hb1.out⟩
end
section
def Aft {α:Type} (B:Nat) (a:RR α):Prop:=match a with | .error e=>B≤e.2 | .ok y=>B≤y.2
theorem zcu {α β:Type} {B:Nat} {a:RR α} {f:α→Nat→RR β} (h:Aft B a) (hf:∀x q,a=.ok (x,q)→B≤q→Aft B (f x q)):Aft B (thn a f):=by
 cases a with
 | error e=>exact h
 | ok y=>exact hf y.1 y.2 rfl h
theorem zg9 {α:Type} {B:Nat} {c:Prop} [Decidable c] {a b:RR α} (h1:Aft B a) (h2:Aft B b):Aft B (if c then a else b):=by split <;> assumption
theorem zkx {T:ye} (hT:Fwd T) {B p:Nat} (hp:B≤p):Aft B (nmP T p):=by
 unfold nmP
 cases h:T p with
 | error c=>exact hp
 | ok y=>have:=hT p y.1 y.2 h;show B≤y.2;omega
theorem zqu {T:ye} (hT:Fwd T) {E B p:Nat} (lim:Int) (hp:B≤p):Aft B (jf T E lim p):=zcu (zkx hT hp) fun x q _ hq=>zg9 hq hp
theorem yju {T:ye} (hT:Fwd T) {B q:Nat} (lo:Nat) (hq:B≤q):Aft B (hiP T lo q):=zcu (zkx hT hq) fun x r _ hr=>zg9 hr hq
theorem z49 {T:ye} (hT:Fwd T) {B p:Nat} (prev:Option Nat) (a:Nat) (hp:B≤p):Aft B (ivP T prev a p):=zcu (zkx hT hp) fun x q _ hq=>by
 cases loP prev a x with
 | none=>exact hp
 | some lo=>exact yju hT lo hq
theorem yjv {T:ye} (hT:Fwd T) {B p r:Nat} {prev:Option Nat} {a:Nat} {s:Iv×Nat} (hp:B≤p) (hv:ivP T prev a p=.ok (s,r)):B≤s.2:=by
 unfold ivP at hv;obtain⟨x,q,h1,h2⟩:=zaw hv
 cases hlo:loP prev a x with
 | none=>rw[hlo] at h2;cases h2
 | some lo=>rw[hlo] at h2;rw[zzv lo h2];have:=hT _ _ _ (zgv h1);omega
theorem z5a {T:ye} (hT:Fwd T) {B:Nat} (mx:Nat):∀n acc {p:Nat},B≤p→Aft B (ke T mx n acc p)
 | 0,acc,p,hp=>hp
 | n+1,acc,p,hp=>by
   rw[ke];refine zcu (z49 hT _ _ hp) fun s q hs hq=>?_
   unfold zc0;exact zg9 (yjv hT hp hs) (z5a hT mx n _ hq)
theorem z5b {T:ye} (hT:Fwd T) {E B:Nat} (lim:Int):∀n acc {p:Nat},B≤p→Aft B (vu T E lim n acc p)
 | 0,acc,p,hp=>hp
 | n+1,acc,p,hp=>by
   rw[vu];refine zcu (zcu (zkx hT hp) fun x q _ hq=>?_) fun e q _ hq=>z5b hT lim n _ hq
   cases zbu acc x with
   | none=>exact hp
   | some r=>exact zcu (zkx hT hq) fun mx q _ hq=>zcu (zqu hT lim hq) fun n q _ hq=>zcu (z5a hT mx n [] hq) fun _ _ _ hq=>hq
theorem z5c {T:ye} (hT:Fwd T) {E B:Nat} (le lh:Int):∀n acc {p:Nat},B≤p→Aft B (kg T E le lh n acc p)
 | 0,acc,p,hp=>hp
 | n+1,acc,p,hp=>by
   rw[kg];refine zcu (zcu (zqu hT le hp) fun n q _ hq=>zg9 hp (z5b hT lh n [] hq)) fun v q _ hq=>zg9 hp (z5c hT le lh n _ hq)
theorem z5d {T:ye} (hT:Fwd T) {B:Nat} (N:Nat):∀m l ix {p:Nat},B≤p→Aft B (vv T N m l ix p)
 | 0,l,ix,p,hp=>hp
 | m+1,l,ix,p,hp=>by
   rw[vv];refine zcu (z49 hT _ _ hp) fun s q _ hq=>zcu (zkx hT hq) fun x r _ hr=>zg9 hq (zg9 hq (z5d hT N m _ _ hr))
theorem yjw {T:ye} (hT:Fwd T) (E:Nat) (L:zc) (p:Nat):Aft p (jc T E L p):=
 zcu (zqu hT _ (Nat.le_refl _)) fun n q _ hq=>zcu (z5c hT _ _ n [] hq) fun vs q _ hq=>zcu (zqu hT _ hq) fun m q _ hq=>zcu (z5d hT _ m [] [] hq) fun s q _ hq=>zg9 hq (zg9 hq hq)
theorem yjx (a b:List Nat) (k:Nat):nth (a++b) (a.length+k)=nth b k:=by
 simp[nth,List.getElem?_append_right]
theorem yjy (pre rest:List Nat):zar (pre++qw++rest) pre.length=none:=by
 refine zov fun j hj=>zhs (by simp[qw];omega) ?_
 rw[List.append_assoc,yjx];obtain rfl | rfl | rfl | rfl | rfl:j=0∨j=1∨j=2∨j=3∨j=4:=by omega
 all_goals rfl
theorem z5e (a b:List Nat) (k:Nat) (h:k=a.length):(a++b).drop k=b:=by subst h;simp
theorem yjz (pre rest:List Nat) (k:Nat) (most:Int) (hk:k<18446744073709551616):
 jy (pre++qw++yp k++rest) pre.length most=if max most 0<(k:Int) then .error (7,pre.length+5) else .ok (pre.length+5+(yp k).length,k):=by
 unfold jy;rw[show pre++qw++yp k++rest=pre++qw++(yp k++rest) by simp,yjy];simp only;rw[z5e (pre++qw) _ _ (by simp[qw]),zr9 rest hk]
 rfl
theorem yj0 {l:List Nat} {E:Nat} (h:E≤l.length):ze l E=jx (l.take E):=by
 funext p;unfold ze jx;rw[if_pos h];generalize yf ((l.take E).drop p) 0 0=s;obtain⟨a,b,c⟩:=s;rcases a with _ | _ | _ | a <;> rfl
def zc7 (L:zc) (c:Kno):Prop:=((zq (zn c)).length:Int)≤max L.1 0∧okK L c
theorem z5f (pre u:List Nat) (c:Kno) (L:zc) (hp:∀x∈pre,x<256) (hu:∀x∈u,x<256) (hK:EncK c):
 (zc7 L c→qo (pre++kw c++u) L pre.length=.ok (c,(pre++kw c).length))∧
 (¬zc7 L c→∃o,qo (pre++kw c++u) L pre.length=.error (7,o)∧pre.length<o∧o<(pre++kw c).length):=by
 obtain⟨b,hb⟩:∃b,zq (zn c)=b:=⟨_,rfl⟩;have hbl:b.length<900000000000:=by rw[←hb];have h1:=zji (zn c);have h2:=zvd hK;omega
 have hb256:∀x∈b,x<256:=by rw[←hb];exact zf0 _
 have h5:qw.length=5:=rfl;have h4:(jo (sum b)).length=4:=rfl;have e0:kw c=qw++yp b.length++b++jo (sum b):=by unfold kw;rw[hb];rfl
 have hlen:(pre++kw c).length=pre.length+5+(yp b.length).length+b.length+4:=by
  rw[e0];simp only[List.length_append,h5,h4];omega
 have e1:pre++kw c++u=pre++qw++yp b.length++(b++jo (sum b)++u):=by rw[e0];simp
 have hh:=yjz pre (b++jo (sum b)++u) b.length L.1 (by omega);rw[←e1] at hh;unfold zc7;rw[hb];obtain⟨s,hs⟩:∃s,pre.length+5+(yp b.length).length=s:=⟨_,rfl⟩;rw[hs] at hh hlen;obtain⟨l,hl⟩:∃l,pre++kw c++u=l:=⟨_,rfl⟩;have hll:s+b.length+4≤l.length:=by rw[←hl,List.length_append,hlen];omega
 have hd:l.drop s=b++(jo (sum b)++u):=by
  rw[←hl,e1,z5e _ _ _ (by simp only[List.length_append,h5];omega)];simp
 have hd2:l.drop (s+b.length)=jo (sum b)++u:=by rw[←List.drop_drop,hd];simp
 have ht:(l.take (s+b.length)).drop s=b++[]:=by
  rw[List.drop_take,hd,show s+b.length - s=b.length by omega];simp
 rw[hl] at hh ⊢;by_cases hm:max L.1 0<(b.length:Int)
 · rw[if_pos hm] at hh;refine⟨fun h=>by have:=h.1;omega,fun _=>⟨pre.length+5,?_,by omega,by rw[hlen];omega⟩⟩;unfold qo;rw[hh]
   rfl
 · rw[if_neg hm] at hh
   have h256:∀x∈l.take (s+b.length),x<256:=fun x hx=>by
    have hx:=List.mem_of_mem_take hx;rw[←hl,List.mem_append,List.mem_append] at hx;rcases hx with (hx | hx) | hx
    · exact hp x hx
    · exact zm2 c x hx
    · exact hu x hx
   have hF:=zz4 h256;have hIn:=zsr h256;rw[List.length_take,Nat.min_eq_left (show s+b.length≤l.length by omega)] at hIn;have hr:=zsa (l:=l.take (s+b.length)) (ns:=zn c) (t:=[]) (p:=s) (zoe hK) (by rw[hb];exact ht);rw[hb] at hr;obtain⟨h1,h2⟩:=zy0 (E:=s+b.length) (L:=L) hF hK.can hK.lt hr (Nat.le_refl _);have htk:=yj0 (l:=l) (E:=s+b.length) (by omega);refine⟨fun h=>?_,fun h=>?_⟩
   · have h3:=h1 h.2;rw[if_neg (Nat.lt_irrefl _)] at h3;unfold qo;rw[hh];simp only;rw[htk,h3];simp only;rw[if_neg (by omega),if_pos (by rw[hd,hd2];simp[h4])];rw[hlen]
   · have hno:¬okK L c:=fun h'=>h ⟨by omega,h'⟩
     obtain⟨w,h3⟩:=h2 hno;have h6:=yjw hF (s+b.length) L s;have h7:=zsq hIn L (p:=s) (by omega);rw[h3] at h6 h7;have h6:s≤w:=h6;have h7:w≤s+b.length∧_:=h7;refine⟨w,?_,by omega,by rw[hlen];omega⟩;unfold qo;rw[hh];simp only;rw[htk,h3]
     rfl
theorem zvf {a b:List Nat} (ha:∀x∈a,x<256) (hb:∀x∈b,x<256):∀x∈a++b,x<256:=fun x hx=>by
 rcases List.mem_append.1 hx with h | h
 · exact ha x h
 · exact hb x h
theorem zvg {L:zc}:∀(cs:List Kno) (pre u:List Nat),(∀x∈pre,x<256)→(∀x∈u,x<256)→(∀c∈cs,EncK c∧zc7 L c)→
 ∃es,zbv (pre++yo cs++u) L cs es pre.length (pre++yo cs).length
 | [],pre,u,_,_,_=>⟨[],by show pre.length=_;simp[yo]⟩
 | c :: cs,pre,u,hp,hu,h=>by
   have hc:=h c (List.mem_cons_self ..);have h1:=(z5f pre (yo cs++u) c L hp (zvf (zf6 cs) hu) hc.1).1 hc.2;obtain⟨es,h2⟩:=zvg cs (pre++kw c) u (zvf hp (zm2 c)) hu fun c' h'=>h c' (List.mem_cons_of_mem _ h')
   refine⟨(pre++kw c).length :: es,?_,?_⟩
   · rw[show pre++yo (c :: cs)++u=pre++kw c++(yo cs++u) by rw[zjk];simp];exact h1
   · rw[show pre++yo (c :: cs)++u=pre++kw c++yo cs++u by rw[zjk];simp,show pre++yo (c :: cs)=pre++kw c++yo cs by rw[zjk];simp];exact h2
theorem yj1 (l:List Nat) (L:zc):qo l L l.length=.error (0,l.length):=by
 have h:jy l l.length L.1=.error (5,l.length):=by
  unfold jy;rw[zfc (i:=0) (by omega) (fun j hj=>by omega) (zgw (by omega))]
 unfold qo;rw[h]
 rfl
theorem zvh {L:zc} {cs:List Kno} (h:∀c∈cs,EncK c∧zc7 L c):∃es,kq (yo cs) L cs es (0,(yo cs).length):=by
 obtain⟨es,h1⟩:=zvg cs [] [] (fun _ h=>by cases h) (fun _ h=>by cases h) h;simp only[List.nil_append,List.append_nil,List.length_nil] at h1;exact⟨es,(yo cs).length,h1,yj1 _ _⟩
end
section
open Go.RowKit
set_option maxRecDepth 20000 in
theorem zvi (a:Option Addr) (n cap:Nat) (ks:List Kno) (w:World) (hE:KnS w a n cap ks):
 Calls Tryz.prog 24 #[.slice a n cap] w fun e w'=>(∃r:Nat,e=.returned (.int .i64 r)∧((r=1∧RightL ks)∨(r=0∧¬RightL ks)))∧Below w.heap.size w w':=by
 have HE:=hid (fun W (h:Below w.heap.size w W)=>hE.below h);have Hl:=hid hE.len;have hm:n≤9223372036854775807:=Nat.le_trans hE.room hE.most;have hr:=hE.room;clear hE;by_cases h6:6<n
 · have hd:decide (6<(n:Int))=true:=by rw[decide_eq_true_iff];omega
   have hd':decide (6<n)=true:=by rw[decide_eq_true_iff];omega
   have Hno:=hid (show ¬RightL ks from fun h=>by have:=h.len;have:=Hl.out;omega);clear h6;go_enter Tryz.func24,Tryz.ntmps24;go_wp2_with fail;go_ret;exact⟨⟨0,rfl,.inr ⟨rfl,Hno.out⟩⟩,Below.refl _ _⟩
 · have hd:decide (6<(n:Int))=false:=by rw[decide_eq_false_iff_not];omega
   have hd':decide (6<n)=false:=by rw[decide_eq_false_iff_not];omega
   have Hn6:=hid (show n≤6 from by omega);clear h6;go_enter Tryz.func24,Tryz.ntmps24;go_wp2_with fail;go_loopw [10] (fun i wr=>∃k:Nat,k≤n∧i=.int .i64 k∧Hid (Below w.heap.size w wr)∧Hid (∀j,j<k→zcm (zt ks j)=true∧ckF (zt ks j)=none)) (fun i _=>n - (intOf i).toNat)
   case atStart=>exact⟨0,Nat.zero_le _,rfl,hid (Below.refl _ _),hid fun j hj=>absurd hj (Nat.not_lt_zero j)⟩
   case round=>
    obtain⟨k,hkn,rfl,hb,hI⟩:=hrel;by_cases hlt:k<n
    · obtain⟨b,o,rfl,hc⟩:=(HE.out _ hb.out).cells (by omega);obtain⟨x,m,c,e1,hf⟩:=hc k hlt;have hd2:decide ((k:Int)<(n:Int))=true:=by rw[decide_eq_true_iff];omega
      have hk1:IntKind.i64.wrap ((k:Int)+1)=((k+1:Nat):Int):=by rw[IntKind.wrap_i64];omega
      have h0:(0:Int)≤(k:Int):=by omega
      have h0n:(k:Int)<(n:Int):=by omega
      have HF:=hid (zu5 x m c (zt ks k) wr hf);have HR:=hid (fun W (h:Below wr.heap.size wr W)=>yjt x m c (zt ks k) W (hf.below h));have Hmem:=hid (zif (ks:=ks) (i:=k) (by have:=Hl.out;omega))
      have Hst:=hid (show zcm (zt ks k)=true→ckF (zt ks k)=none→∀j,j<k+1→zcm (zt ks j)=true∧ckF (zt ks j)=none from fun h1 h2 j hj=>by
       by_cases e:j=k
       · subst e;exact⟨h1,h2⟩
       · exact hI.out j (by omega))
      clear hc hf;obtain⟨K,hK⟩:∃K,zt ks k=K:=⟨_,rfl⟩;rw[hK] at HF HR Hmem Hst;clear hK
      cases hfw:zcm K with
      | false=>
       have Hno:=hid (show ¬RightL ks from fun h=>by have:=(h.one _ Hmem.out).1;rw[hfw] at this;cases this);rw[hfw] at HF;clear HR Hmem Hst hfw;go_wp2_with fail;refine HF.out.mono ?_;rintro e w2 ⟨rfl,hb2⟩;have Hb2:=hid (hb.out.trans (hb2.mono hb.out.size));clear hb2;go_wp2_with fail;go_ret
       exact⟨⟨0,rfl,.inr ⟨rfl,Hno.out⟩⟩,Hb2.out⟩
      | true=>
       cases hck:decide (ckF K=none) with
       | false=>
        have Hno:=hid (show ¬RightL ks from fun h=>by have:=(h.one _ Hmem.out).2;rw[decide_eq_true this] at hck;cases hck);rw[hfw] at HF;rw[hck] at HR;clear Hmem Hst hfw hck;go_wp2_with fail;refine HF.out.mono ?_;rintro e w2 ⟨rfl,hb2⟩;have HR2:=hid (HR.out w2 hb2);have Hb2:=hid (hb.out.trans (hb2.mono hb.out.size));clear hb2;go_wp2_with fail;refine HR2.out.mono ?_;rintro e w3 ⟨rfl,hb3⟩;have Hb3:=hid (Hb2.out.trans (hb3.mono Hb2.out.size));clear hb3;go_wp2_with fail;go_ret
        exact⟨⟨0,rfl,.inr ⟨rfl,Hno.out⟩⟩,Hb3.out⟩
       | true=>
        have HI2:=hid (Hst.out hfw (of_decide_eq_true hck));rw[hfw] at HF;rw[hck] at HR;clear Hmem Hst hfw hck;go_wp2_with fail;refine HF.out.mono ?_;rintro e w2 ⟨rfl,hb2⟩;have HR2:=hid (HR.out w2 hb2);have Hb2:=hid (hb.out.trans (hb2.mono hb.out.size));clear hb2;go_wp2_with fail;refine HR2.out.mono ?_;rintro e w3 ⟨rfl,hb3⟩;have Hb3:=hid (Hb2.out.trans (hb3.mono Hb2.out.size));clear hb3;go_wp2_with fail;go_roundw
        case rel=>exact⟨k+1,hlt,rfl,Hb3,HI2⟩
        case measure=>simp[intOf];omega
    · have hd2:decide ((k:Int)<(n:Int))=false:=by rw[decide_eq_false_iff_not];omega
      have Hyes:=hid (show RightL ks from⟨by have:=Hl.out;have:=Hn6.out;omega,fun K hK=>by
       obtain⟨i,hi,rfl⟩:=List.getElem_of_mem hK;rw[←zb2 hi];exact hI.out i (by have:=Hl.out;omega)⟩)
      go_wp2_with fail;go_ret;exact⟨⟨1,rfl,.inl ⟨rfl,Hyes.out⟩⟩,hb.out⟩
theorem zqv:∀{cs:List Kno},(∀c∈cs,EncK c)→(yo cs).length≤9000000019*cs.length
 | [],_=>by simp[yo]
 | c :: cs,h=>by
   have h1:=zqv (cs:=cs) fun c' hc=>h c' (List.mem_cons_of_mem _ hc)
   have h2:=z47 c;have h3:=zm8 (h c (List.mem_cons_self ..));rw[zjk,List.length_append,List.length_cons];omega
