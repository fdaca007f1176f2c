/- A part. -/
import Derived.Test.YtkjmpcfikenlbaaGreatDoorShelf
import Derived.Test.YtkjmpcfikenlbaaGreatDoorW0
import Derived.Test.YtkjmpcfikenlbaaGreatDoorSeatWk
import Derived.Test.YtkjmpcfikenlbaaGreatDoorSeatRunA
set_option linter.all false
namespace Go.Tx
open Go Go.Ev Go.Proofs Go.RowKit
theorem ext2_ok':∀w,HS w 1->CN Tryz.prog w (ZN 276 290):=λw hw=>
 atG (g:=1) ⟨_,Tryz.func276,rfl⟩ ⟨_,Tryz.func290,rfl⟩ Tryz.stringslite_IndexByte Tryz.stringslite_Index hw
theorem awk_ok{w0:World}(hw:HS w0 1)(ρ:cX)(H:bg)(w:World)(R:hB w0 ρ H w):Calls Tryz.prog 5 #[] w λe w'=>e=.returned (.bool true)/\Rel ρ H w'/\Step ρ H w ρ H w':=by
 have hT:=atS mixed named (g:=1) ext2_ok' awake_run w0 hw
 obtain⟨e,he⟩:∃e,Xg 5 (ZN 276 290) 5=some e:=⟨_,rfl⟩
 cases he
 obtain⟨fn,v,_,_,hv,h⟩:=hT 5 _ rfl [] (λv=>ni v λb=>b) rfl
 refine(h ρ H w [] (by simp only[dh]) R).mono λe w' hh=>?_
 obtain⟨V,rfl,hV,h1,F⟩:=hh
 obtain⟨b,rfl,hb⟩:=AC (show ni v (λb=>b)=true from hv)
 subst hb
 simp only[bP]at hV
 subst hV
 exact⟨rfl,h1,F⟩
theorem asO_mem:∀{l:List (Nat×O)}{f:Nat}{B:O},zF l f=some B->(f,B)∈l
 |(a,x)::l,f,B,h=>by
  unfold zF at h
  cases q:Nat.beq a f with
  |true=>
   rw[q]at h
   cases h
   rw[dA.1 q];exact List.mem_cons_self
  |false=>rw[q]at h;exact List.mem_cons_of_mem _ (asO_mem h)
theorem next_walk{w0:World}{ao:Option Addr}{len cap:Nat}{xs:List Int}(hx:xs.length=len)(hao:∀a,ao=some a->0<len->a.block<w0.heap.size)(hsome:0<len->∃a,ao=some a)
 (hc:∀a,ao=some a->∀(j:Nat) x,xs[j]?=some x->w0.cell? (a.add j)=some (.int .i64 x)) (b k n:Nat) (w:World) (hb:w.heap[b]?=some (.cells #[.slice ao len cap,.int .i64 k] 60 (0,0))) (ar:k<=xs.length) (hl:xs.length<=100000) (hw:amz w0 w) (hbw:w0.heap.size<=b) (h0:0<n) (hn:n<9223372036854775808):
 Calls Tryz.prog 8 #[.pointer (some ⟨b,0,none⟩),.int .i64 n] w λe w'=>match xs[k]? with
  |some x=>e=.returned (.int .i64 (x % (n:Int)))/\LO b w w'/\w'.heap[b]?=some (.cells #[.slice ao len cap,.int .i64 ((k+1:Nat):Int)] 60 (0,0))
  |none=>e=.returned (.int .i64 0)/\Below w.heap.size w w':=by
 have c0:w.cell? ⟨b,0,none⟩=some (.slice ao len cap):=by unfold World.cell?;rw[hb];rfl
 have c1:w.cell? ⟨b,1,none⟩=some (.int .i64 (k:Int)):=by unfold World.cell?;rw[hb];rfl
 have hfr:w.frozen? ⟨b,1,none⟩=false:=by unfold World.frozen?;rw[hb];rfl
 cases q:xs[k]? with
 |none=>
  have hge:xs.length<=k:=by
   rcases Nat.lt_or_ge k xs.length with h|h
   .rw[List.getElem?_eq_getElem h]at q;cases q
   .exact h
  refine(next_end b ao len cap k n w c0 c1 (by omega)).mono λe w' hh=>?_
  obtain⟨rfl,m,rfl⟩:=hh
  exact⟨rfl,drew_below w m⟩
 |some x=>
  have hlt:k<xs.length:=by
   rcases Nat.lt_or_ge k xs.length with h|h
   .exact h
   .rw[List.getElem?_eq_none h]at q;cases q
  obtain⟨a,rfl⟩:=hsome (by omega)
  have hblk:=hao a rfl (by omega)
  have cW:(a.add k).block=a.block:=by unfold Addr.add;split<;>rfl
  have hx':w.cell? (a.add (k:Int).toNat)=some (.int .i64 x):=by
   rw[Int.toNat_natCast,<-hc a rfl k x q]
   unfold World.cell?
   rw[cW,hw _ hblk]
  refine(next_mid b a len cap k n x w c0 c1 hfr (by omega) hx' (by omega) (by omega) (by omega) (by omega) (by omega)).mono λe w' hh=>?_
  obtain⟨rfl,m,m',rfl⟩:=hh
  have au:=ate (w.drewN m) b 1 (.int .i64 ((k:Int)+1))
  exact⟨rfl,⟨au.size,au.same,rfl,rfl,rfl⟩,at2 (w:=w.drewN m) hb 1 _⟩
theorem told_ok{w0:World}{ao:Option Addr}{len cap:Nat}{xs:List Int}(hw:HS w0 1)(hx:xs.length=len)(hao:∀a,ao=some a->0<len->a.block<w0.heap.size)(hsome:0<len->∃a,ao=some a)
 (hc:∀a,ao=some a->∀(j:Nat) x,xs[j]?=some x->w0.cell? (a.add j)=some (.int .i64 x)):aee Tryz.prog w0 (Bu (zF (told (.slice ao len cap) len xs))):=by
 refine as1 λf B ho=>?_
 have hm:=asO_mem ho
 simp only[told,List.mem_cons,Prod.mk.injEq,List.not_mem_nil,or_false]at hm
 rcases hm with⟨rfl,rfl⟩|⟨rfl,rfl⟩|⟨rfl,rfl⟩|⟨rfl,rfl⟩
 .exact aus ⟨_,Tryz.func5,rfl⟩ (awk_ok hw)
 .exact aun ⟨_,Tryz.func4,rfl⟩ (light_walk ao len cap)
 .exact asq ⟨_,Tryz.func8,rfl⟩ (next_walk hx hao hsome hc)
 .refine atD ⟨_,Tryz.func22,rfl⟩ λb i w h0 h1=>(left_walk b ao len cap i w h0 h1).mono λe w' hh=>?_
  obtain⟨rfl,k,rfl⟩:=hh
  exact⟨rfl,drew_below w k⟩
theorem law_callsY{P:Program}{E:Nat->List Nat}(hm:P.follows .mixedOrders=true)(hn:oL P){ext:Nat->Option eS}{X:Nat->Option E0}{w:World}(hext:CN P w ext)(hX:aee P w X){n f:Nat}{args:List bp}{Args:List Value}
 (h:BN (N6 P) E ext X n f args yD (λr _=>Qn r)=true) (hA:dh (λ_=>none) args Args):
 Calls P f (List.toArray Args) w λe w'=>e=.returned (.bool true)/\w'.os=w.os/\w'.output=w.output/\w'.tape=w.tape/\w.heap.size<=w'.heap.size/\∀i,i<w.heap.size->w'.heap[i]?=w.heap[i]?:=by
 rw[akZ]at h
 obtain⟨fn,_,_,aq⟩:=aiI hm hn hext hX n f args yD _ h
 refine(aq _ w Args hA (agk w)).mono λe w' hR=>?_
 obtain⟨ρ',H',dC,b3,iQ⟩:=hR
 cases e with
 |returned V=>
  obtain⟨v,r4,r5⟩:=iQ
  obtain⟨b,rfl,hb⟩:=AC (show ni v (λb=>b)=true from r5)
  subst hb
  simp only[bP]at r4
  subst r4
  exact⟨rfl,dC.kv.os,dC.kv.output,dC.kv.tape,dC.kv.size,dC.kv.same⟩
 |panicked chain=>
  obtain⟨v,V,_,_,r5⟩:=iQ
  exact absurd r5 Bool.false_ne_true
 |outgrown=>exact iQ.elim
theorem sgn_ex(z:Int)(h0: -9223372036854775808<=z)(h1:z<=9223372036854775807):∃p,p<18446744073709551616/\eM 3 p=z:=by
 refine⟨(z % 18446744073709551616).toNat,by omega,?_⟩
 show(if (z % 18446744073709551616).toNat<9223372036854775808 then((z % 18446744073709551616).toNat:Int)else((z % 18446744073709551616).toNat:Int) - ((18446744073709551616:Nat):Int))=z
 split<;>omega
theorem walk3(ao:Option Addr)(len cap:Nat)(z:Int)(hz0: -9223372036854775808<=z)(hz1:z<=9223372036854775807)(w:World)(hw:HS w 1)(hao:∀a,ao=some a->0<len->a.block<w.heap.size)(hsome:0<len->∃a,ao=some a)(hc:∀a,ao=some a->∀j,j<len->∃x,w.cell? (a.add j)=some (.int .i64 x)):
 Calls Tryz.prog 3 #[.slice ao len cap,.int .i64 z] w λe w'=>e=.returned (.bool true)/\w'.os=w.os/\w'.output=w.output/\w'.tape=w.tape/\w.heap.size<=w'.heap.size/\∀i,i<w.heap.size->w'.heap[i]?=w.heap[i]?:=by
 obtain⟨p,bq,hpz⟩:=sgn_ex z hz0 hz1
 have hA:dh (λ_=>none) [.pJ (.slice ao len cap),.int 3 p] [.slice ao len cap,.int .i64 z]:=dh.cons (by simp only[bP];exact⟨trivial,rfl,rfl⟩) (dh.cons (by rw[<-hpz];exact oZ (c:=3) (by decide) bq) dh.nil)
 obtain⟨xs,hx,hxs⟩:∃xs:List Int,xs.length=len/\∀a,ao=some a->∀(j:Nat) x,xs[j]?=some x->w.cell? (a.add j)=some (.int .i64 x):=by
  cases ao with
  |none=>exact⟨List.replicate len 0,by simp,λa h=>by cases h⟩
  |some a=>
   have:∀n,n<=len->∃xs:List Int,xs.length=n/\∀(j:Nat) x,xs[j]?=some x->w.cell? (a.add j)=some (.int .i64 x):=by
    intro n
    induction n with
    |zero=>intro _;exact⟨[],rfl,λj x h=>by simp at h⟩
    |succ n ih=>
     intro hn
     obtain⟨xs,h1,F⟩:=ih (by omega)
     obtain⟨x,aq⟩:=hc a rfl n (by omega)
     refine⟨xs++[x],by simp[h1],λj y hj=>?_⟩
     rcases Nat.lt_or_ge j xs.length with h|h
     .rw[List.getElem?_append_left h]at hj;exact F j y hj
     .rw[List.getElem?_append_right h]at hj
      have:j=n:=by
       rcases Nat.lt_or_ge (j - xs.length) 1 with h'|h'
       .omega
       .rw[List.getElem?_eq_none (by simpa using h')]at hj;cases hj
      subst this
      rw[show j - xs.length=0 by omega]at hj
      cases hj
      exact aq
   obtain⟨xs,h1,F⟩:=this len (Nat.le_refl _)
   exact⟨xs,h1,λa' h=>by cases h;exact F⟩
 obtain⟨n,hn⟩:=atn (.slice ao len cap) len xs (λ_=>hx) p bq
 exact law_callsY mixed named (auv _) (told_ok hw hx hao hsome hxs) hn hA
end Go.Tx
