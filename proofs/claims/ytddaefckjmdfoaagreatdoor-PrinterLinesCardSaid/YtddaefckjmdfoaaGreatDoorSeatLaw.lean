/- Part of the proof of PrinterLines. -/
import Derived.Test.YtddaefckjmdfoaaGreatDoorShelf
import Derived.Lib.AppendIntMem
import Derived.Test.YtddaefckjmdfoaaGreatDoorW1
import Derived.Test.YtddaefckjmdfoaaGreatDoorSeatWk
import Derived.Test.YtddaefckjmdfoaaGreatDoorSeatRunA
set_option linter.all false
namespace Go.Tx
open Go Go.Ev Go.Proofs Go.RowKit
theorem ext2_ok':∀w,J0 w 1->BB Tryz.prog w (acT 264 313):=λw hw=>
 asg (g:=1) ⟨_,Tryz.func264,rfl⟩ ⟨_,Tryz.func313,rfl⟩ Tryz.stringslite_IndexByte Tryz.stringslite_Index hw
theorem awk_ok{w0:World}(hw:J0 w0 1)(ρ:cE)(H:bd)(w:World)(R:gQ w0 ρ H w):Calls Tryz.prog 5 #[] w λe w'=>e=.returned (.bool true)/\Rel ρ H w'/\Step ρ H w ρ H w':=by
 have hT:=aqU mixed named (g:=1) ext2_ok' awake_run w0 hw
 obtain⟨e,he⟩:∃e,aaH 5 (acT 264 313) 5=some e:=⟨_,rfl⟩
 cases he
 obtain⟨fn,v,_,_,hv,h⟩:=hT 5 _ rfl [] (λv=>mi v λb=>b) rfl
 refine(h ρ H w [] (by simp only[cK]) R).mono λe w' hh=>?_
 obtain⟨V,rfl,hV,h1,h2⟩:=hh
 obtain⟨b,rfl,hb⟩:=Ak (show mi v (λb=>b)=true from hv)
 subst hb
 simp only[bk] at hV
 subst hV
 exact⟨rfl,h1,h2⟩
abbrev TabW(w:World):Prop:=Lib.TabIs Tryz.prog w "internal/strconv.uint64pow10" .u64 Lib.pow10Tab
theorem tab_old{w0 w:World}(h:TabW w0)(hw:OI w0 w):TabW w:=by
 have h:World.var? Tryz.prog w0 "internal/strconv.uint64pow10"=_:=h
 show World.var? Tryz.prog w "internal/strconv.uint64pow10"=_
 unfold World.var? at h ⊢
 cases hg:Tryz.prog.globalNamed "internal/strconv.uint64pow10" with
 |none=>rw[hg] at h;cases h
 |some g=>
  rw[hg] at h
  simp only[Option.bind_some] at h ⊢
  have hlt:g<w0.heap.size:=by
   rcases Nat.lt_or_ge g w0.heap.size with h'|h'
   .exact h'
   .rw[Array.getElem?_eq_none h'] at h;cases h
  rw[hw g hlt];exact h
theorem int_old{w0 w:World}{g:Nat}(h:J0 w0 g)(hw:OI w0 w):J0 w g:=by
 obtain⟨m,h⟩:=h
 refine⟨m,?_⟩
 have hlt:g<w0.heap.size:=by
  rcases Nat.lt_or_ge g w0.heap.size with h'|h'
  .exact h'
  .unfold World.cell? at h
   rw[Array.getElem?_eq_none h'] at h;cases h
 unfold World.cell? at h ⊢
 rw[hw g hlt];exact h
theorem asO_mem:∀{l:List (Nat×O)}{f:Nat}{D:O},AK l f=some D->(f,D)∈l
 |(a,x)::l,f,D,h=>by
  unfold AK at h
  cases q:Nat.beq a f with
  |true=>
   rw[q] at h
   cases h
   rw[cF.1 q];exact List.mem_cons_self
  |false=>rw[q] at h;exact List.mem_cons_of_mem _ (asO_mem h)
theorem frz_turn1(w:World)(k g n:Nat):IT g w ((w.drewN k).freeze ⟨g,0,none⟩ n):=by
 unfold World.freeze
 split
 .exact⟨rfl,λ_ _=>rfl,rfl,rfl,rfl⟩
 .refine⟨by show(w.heap.modify g _).size=_;rw[Array.size_modify],λM hj=>?_,rfl,rfl,rfl⟩
  show(w.heap.modify g _)[M]?=_
  rw[Array.getElem?_modify,if_neg (λe=>hj e.symm)]
theorem next_walk{w0:World}{ao:Option Addr}{len cap:Nat}{xs:List Int}(hx:xs.length=len)(hao:∀a,ao=some a->0<len->a.block<w0.heap.size)(hsome:0<len->∃a,ao=some a)
 (hc:∀a,ao=some a->∀(M:Nat) x,xs[M]?=some x->w0.cell? (a.add M)=some (.int .i64 x)) (b k n:Nat) (w:World) (hb:w.heap[b]?=some (.cells #[.slice ao len cap,.int .i64 k] 66 (0,0))) (hk:k<=xs.length) (hl:xs.length<=100000) (hw:OI w0 w) (hbw:w0.heap.size<=b) (h0:0<n) (hn:n<9223372036854775808):
 Calls Tryz.prog 8 #[.pointer (some ⟨b,0,none⟩),.int .i64 n] w λe w'=>match xs[k]? with
  |some x=>e=.returned (.int .i64 (x % (n:Int)))/\IT b w w'/\w'.heap[b]?=some (.cells #[.slice ao len cap,.int .i64 ((k+1:Nat):Int)] 66 (0,0))
  |none=>e=.returned (.int .i64 0)/\Below w.heap.size w w':=by
 have c0:w.cell? ⟨b,0,none⟩=some (.slice ao len cap):=by unfold World.cell?;rw[hb];rfl
 have c1:w.cell? ⟨b,1,none⟩=some (.int .i64 (k:Int)):=by unfold World.cell?;rw[hb];rfl
 have hfr:w.frozen? ⟨b,1,none⟩=false:=by unfold World.frozen?;rw[hb];rfl
 cases q:xs[k]? with
 |none=>
  have hge:xs.length<=k:=by
   rcases Nat.lt_or_ge k xs.length with h|h
   .rw[List.getElem?_eq_getElem h] at q;cases q
   .exact h
  refine(next_end b ao len cap k n w c0 c1 (by omega)).mono λe w' hh=>?_
  obtain⟨rfl,m,rfl⟩:=hh
  exact⟨rfl,drew_below w m⟩
 |some x=>
  have hlt:k<xs.length:=by
   rcases Nat.lt_or_ge k xs.length with h|h
   .exact h
   .rw[List.getElem?_eq_none h] at q;cases q
  obtain⟨a,rfl⟩:=hsome (by omega)
  have hblk:=hao a rfl (by omega)
  have c9:(a.add k).block=a.block:=by unfold Addr.add;split<;>rfl
  have hx':w.cell? (a.add (k:Int).toNat)=some (.int .i64 x):=by
   rw[Int.toNat_natCast,<-hc a rfl k x q]
   unfold World.cell?
   rw[c9,hw _ hblk]
  refine(next_mid b a len cap k n x w c0 c1 hfr (by omega) hx' (by omega) (by omega) (by omega) (by omega) (by omega)).mono λe w' hh=>?_
  obtain⟨rfl,m,m',rfl⟩:=hh
  have al:=adJ (w.drewN m) b 1 (.int .i64 ((k:Int)+1))
  exact⟨rfl,⟨al.size,al.same,rfl,rfl,rfl⟩,akM (w:=w.drewN m) hb 1 _⟩
theorem told_ok{w0:World}{ao:Option Addr}{len cap:Nat}{xs:List Int}(hw:J0 w0 1)(al:TabW w0)(hx:xs.length=len)(hao:∀a,ao=some a->0<len->a.block<w0.heap.size)(hsome:0<len->∃a,ao=some a)
 (hc:∀a,ao=some a->∀(M:Nat) x,xs[M]?=some x->w0.cell? (a.add M)=some (.int .i64 x)):acz Tryz.prog w0 (A6 (AK (told (.slice ao len cap) len xs))):=by
 have hg:∀(w:World)(k:Nat)(os:Array Obj),Below w.heap.size w (Go.Sort.grow (w.drewN k) os):=λw k os=>Lib.below_grow _ w (Nat.le_refl _) k os
 refine asT λf D ho=>?_
 have hm:=asO_mem ho
 simp only[told,List.mem_cons,Prod.mk.injEq,List.not_mem_nil,or_false] at hm
 rcases hm with⟨rfl,rfl⟩|⟨rfl,rfl⟩|⟨rfl,rfl⟩|⟨rfl,rfl⟩|⟨rfl,rfl⟩|⟨rfl,rfl⟩|⟨rfl,rfl⟩|⟨rfl,rfl⟩|⟨rfl,rfl⟩|⟨rfl,rfl⟩|⟨rfl,rfl⟩|⟨rfl,rfl⟩
 .exact arU ⟨_,Tryz.func20,rfl⟩ mod_walk
 .refine aq4 ⟨_,Tryz.func58,rfl⟩ λn w h1 h2 hw=>(Tryz.strconv_Itoa n h1 h2 w (tab_old al hw)).mono λe w' hh=>?_
  obtain⟨rfl,k,os,rfl⟩:=hh
  exact⟨rfl,hg w k os⟩
 .refine arf ⟨_,Tryz.func97,rfl⟩ λn w h1 h2 hw=>(fmt_walk n w h1 h2 (tab_old al hw)).mono λe w' hh=>?_
  obtain⟨rfl,k,os,rfl⟩:=hh
  exact⟨rfl,hg w k os⟩
 .exact aqI ⟨_,Tryz.func214,rfl⟩ Tryz.strings_Join_none Tryz.strings_Join
 .refine ar5 ⟨_,Tryz.func313,rfl⟩ λs sub w h1 ho=>?_
  obtain⟨m,hm⟩:=int_old hw ho
  exact Tryz.stringslite_Index s sub m w h1 hm
 .exact ar8 ⟨_,Tryz.func264,rfl⟩ Tryz.stringslite_IndexByte
 .exact aqL ⟨_,Tryz.func261,rfl⟩ (λb w h=>Any.Builder_copyCheck_used {Tryz.lays156 with} Tryz.Builder_Extra_156.toX72 b w h) λb w h1 h2 h3=>Any.Builder_copyCheck_fresh {Tryz.lays156 with} Tryz.Builder_Extra_156.toX72 b w h1 h2 h3
 .refine arW ⟨_,Tryz.func178,rfl⟩ (λb N w h=>(str_walk0 b N w h).mono λe w' hh=>?_) λb g cap N l cur w h1 h2 h3 h4 h5 h6 h7 h8=>(str_walk b g cap N l cur w h1 h2 h4 h5 h6 h7 h8).mono λe w' hh=>?_
  .obtain⟨rfl,k,rfl⟩:=hh
   exact⟨rfl,drew_below w k⟩
  .obtain⟨rfl,k,rfl⟩:=hh
   exact⟨rfl,frz_turn1 w k g _⟩
 .exact ar0 ⟨_,Tryz.func5,rfl⟩ (awk_ok hw)
 .exact arZ ⟨_,Tryz.func4,rfl⟩ (light_walk ao len cap)
 .exact ari ⟨_,Tryz.func8,rfl⟩ (next_walk hx hao hsome hc)
 .refine aru ⟨_,Tryz.func19,rfl⟩ λb i w h0 h1=>(left_walk b ao len cap i w h0 h1).mono λe w' hh=>?_
  obtain⟨rfl,k,rfl⟩:=hh
  exact⟨rfl,drew_below w k⟩
theorem law_callsY{P:Program}{E:Nat->List Nat}(hm:P.follows .mixedOrders=true)(hn:oV P){ext:Nat->Option e0}{X:Nat->Option Ep}{w:World}(hext:BB P w ext)(hX:acz P w X){n f:Nat}{args:List bl}{Args:List Value}
 (h:Cx (LA P) E ext X n f args yD (λr _=>Rr r)=true) (hA:cK (λ_=>none) args Args):
 Calls P f (List.toArray Args) w λe w'=>e=.returned (.bool true)/\w'.os=w.os/\w'.output=w.output/\w'.tape=w.tape/\w.heap.size<=w'.heap.size/\∀i,i<w.heap.size->w'.heap[i]?=w.heap[i]?:=by
 rw[ag1] at h
 obtain⟨fn,_,_,h3⟩:=aiH hm hn hext hX n f args yD _ h
 refine(h3 _ w Args hA (amC w)).mono λe w' hR=>?_
 obtain⟨ρ',H',dc,cl,hD⟩:=hR
 cases e with
 |returned V=>
  obtain⟨v,r4,r5⟩:=hD
  obtain⟨b,rfl,hb⟩:=Ak (show mi v (λb=>b)=true from r5)
  subst hb
  simp only[bk] at r4
  subst r4
  exact⟨rfl,dc.jr.os,dc.jr.output,dc.jr.tape,dc.jr.size,dc.jr.same⟩
 |panicked chain=>
  obtain⟨v,V,_,_,r5⟩:=hD
  exact absurd r5 Bool.false_ne_true
 |outgrown=>exact hD.elim
theorem walk3(ao:Option Addr)(len cap:Nat)(w:World)(hw:J0 w 1)(al:TabW w)(hao:∀a,ao=some a->0<len->a.block<w.heap.size)(hsome:0<len->∃a,ao=some a)(hc:∀a,ao=some a->∀M,M<len->∃x,w.cell? (a.add M)=some (.int .i64 x)):
 Calls Tryz.prog 3 #[.slice ao len cap] w λe w'=>e=.returned (.bool true)/\w'.os=w.os/\w'.output=w.output/\w'.tape=w.tape/\w.heap.size<=w'.heap.size/\∀i,i<w.heap.size->w'.heap[i]?=w.heap[i]?:=by
 have hA:cK (λ_=>none) [.pw (.slice ao len cap)] [.slice ao len cap]:=cK.cons (by simp only[bk];exact⟨trivial,rfl,rfl⟩) cK.nil
 obtain⟨xs,hx,hxs⟩:∃xs:List Int,xs.length=len/\∀a,ao=some a->∀(M:Nat) x,xs[M]?=some x->w.cell? (a.add M)=some (.int .i64 x):=by
  cases ao with
  |none=>exact⟨List.replicate len 0,by simp,λa h=>by cases h⟩
  |some a=>
   have:∀n,n<=len->∃xs:List Int,xs.length=n/\∀(M:Nat) x,xs[M]?=some x->w.cell? (a.add M)=some (.int .i64 x):=by
    intro n
    induction n with
    |zero=>intro _;exact⟨[],rfl,λM x h=>by simp at h⟩
    |succ n ih=>
     intro hn
     obtain⟨xs,h1,h2⟩:=ih (by omega)
     obtain⟨x,h3⟩:=hc a rfl n (by omega)
     refine⟨xs++[x],by simp [h1],λM y hj=>?_⟩
     rcases Nat.lt_or_ge M xs.length with h|h
     .rw[List.getElem?_append_left h] at hj;exact h2 M y hj
     .rw[List.getElem?_append_right h] at hj
      have:M=n:=by
       rcases Nat.lt_or_ge (M - xs.length) 1 with h'|h'
       .omega
       .rw[List.getElem?_eq_none (by simpa using h')] at hj;cases hj
      subst this
      rw[show M - xs.length=0 by omega] at hj
      cases hj
      exact h3
   obtain⟨xs,h1,h2⟩:=this len (Nat.le_refl _)
   exact⟨xs,h1,λa' h=>by cases h;exact h2⟩
 obtain⟨n,hn⟩:=arJ (.slice ao len cap) len xs λ_=>hx
 exact law_callsY mixed named (arY _) (told_ok hw al hx hao hsome hxs) hn hA
end Go.Tx
