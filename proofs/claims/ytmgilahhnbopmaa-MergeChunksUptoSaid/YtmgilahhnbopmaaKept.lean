/-
  diff.Script over values; the walk of diff.Kept.
-/
import Derived.Test.YtmgilahhnbopmaaGc
import Derived.Test.YtmgilahhnbopmaaTyM
import Derived.Test.YtmgilahhnbopmaaScript
import Derived.Test.YtmgilahhnbopmaaDiffL
set_option linter.unusedSimpArgs false
set_option linter.unusedVariables false
set_option maxRecDepth 20000
namespace Go.Proofs.Ytmgilahhnbopmaa
open Go Go.Eng Go.RowKit Go.DiffM

def zAm (r:Nat × Nat):List FV:=[.v (.int .i64 r.1),.v (.int .i64 r.2)]
def xW (l:List (Nat × Nat)):List (List FV):=l.map zAm
theorem qBr (l:List (Nat × Nat)):(xW l).length=l.length:=by simp [xW]
theorem zCe {l:List (Nat × Nat)} {i:Nat} {d:List FV} (h:i < l.length):(xW l).getD i d=[.v (.int .i64 (l[i].1:Nat)),.v (.int .i64 (l[i].2:Nat))]:=by unfold xW;rw [iG h];rfl
theorem zB0 {w:World} {v:Value} {fr:Bool} {a:List ByteArray} {A:Nat→Prop} {n0:Nat} (h:RepF w A n0 v (.lst fr (aD a))):SlS w v a:=by
  cases h with
 |lst sz vals hn hc hm hnil hsz ha h1 hr =>
  rw [aA] at hn;subst hn;refine ⟨_,_,rfl,hc,hm,fun h0=>?_⟩
  obtain ⟨b,off,rfl,-,-,-,hcell⟩:=ha h0;refine ⟨b,off,rfl,fun j hj=>?_⟩
  have hj':j < a.length:=by omega
  have hsz1:sz=1:=by rw [← hsz _ (List.getElem_mem (show 0 < (aD a).length by rw [aA];omega))];simp [aD,tW]
  subst hsz1
  have:=hcell j 0 hj' (by omega)
  simp only [Nat.mul_one,Nat.add_zero] at this;rw [this]
  have hr':=hr j 0 (by rw [aA];exact hj') (by simp [aD,tW])
  simp only [aD,List.getElem_map,tW,List.getElem_cons_zero] at hr'
  have e:vals j 0=.string a[j]:=by
    generalize vals j 0=u at hr'
    cases hr';rfl
  rw [e];simp [List.getD_eq_getElem?_getD,hj']
theorem qTw {w:World} {v:Value} {fr:Bool} {a:List ByteArray} {A:Nat→Prop} {n0:Nat} {ρ:Nat→Value} (h:RepH w A n0 ρ v (.lst fr (aD a))):SlS w v a:=by
  cases h with
 |lst h=>exact zB0 h
theorem zDc (a b : List ByteArray) : HFun Try.prog 30 [.lst false (aD a), .lst false (aD b)] (fun h st =>
    (400 < a.length∨400 < b.length)∧h=.tup [.v (.slice none 0 0),.v (.int .i64 4)]∧st=[] ∨
    a.length≤400∧b.length≤400∧h=.tup [.own 0,.v (.int .i64 0)]∧st=[(0,.sl true 71 2 (xW (hD a b)))]):=by
  intro w vs R;obtain ⟨v1,v2,rfl⟩:∃ v1 v2,vs=[v1,v2]:=by
    match vs,R.1 with
   |[x,y],_=>exact ⟨x,y,rfl⟩
  refine Ret.mono (qR6 w v1 v2 a b (qTw (R.2 0 (by simp) (by simp))) (qTw (R.2 1 (by simp) (by simp)))) fun v w' ⟨B,h⟩=>⟨B,?_⟩
  rcases h with ⟨h1,rfl⟩|⟨h1,h2,x,rfl,hE⟩
  · refine ⟨_,_,fun i r hi=>?_,.inl ⟨h1,rfl,rfl⟩,fun _=>undef,fun _=>[],⟨fun id r hr=>by simp [rlk] at hr,fun i j r s b hne hi=>by simp [rlk] at hi,fun k x hk=>by simp [hlk] at hk,⟨B.os,B.tape,B.output,B.size,fun b hlt _=>B.block b hlt⟩,fun b hb=>⟨hb,fun h=>h⟩⟩,?_⟩
    · simp [rlk] at hi
    · exact .tup rfl fun j p q => by
        match j,q with
       |0,_=>exact .v _
       |1,_=>exact .v _
  · obtain ⟨ρ, xs, G, hρ⟩ := qY9 (P := Try.prog) (els := xW (hD a b)) B (show Own w' w.heap.size 71 2 x (xW (hD a b)).length (kR (hD a b)) by rw [qBr]; exact hE) (fun y hy => by
      obtain ⟨r,-,rfl⟩:=List.mem_map.1 hy;rfl) (fun i k hi hk=>by
      rw [qBr] at hi
      have h1:=qCs (hD a b) i hi
      have hk':k < 2:=by simpa [xW,zAm] using hk
      have:k=0∨k=1:=by omega
      rcases this with rfl|rfl
      · exact ⟨_,h1.1,rfl,by simp [xW,zAm]⟩
      · exact ⟨_,h1.2,rfl,by simp [xW,zAm]⟩)
    refine ⟨_,_,fun i r hi=>?_,.inr ⟨h1,h2,rfl,rfl⟩,ρ,xs,G,?_⟩
    · simp only [rlk] at hi
      split at hi
      · omega
      · cases hi
    · refine .tup rfl fun j p q=>?_
      match j,q with
     |0,_ =>
        have hs:x.oneCell'=true:=by obtain ⟨a,c,e⟩:=dC (base:=w.heap.size) hE;rw [e];rfl
        have:=RepH.own (w:=w') (A:=Ctx.A (cx w (fun _=>False) (fun b=>b < w.heap.size)) ρ [(0,.sl true 71 2 (xW (hD a b)))]) (n0:=w.heap.size) (ρ:=ρ) 0 (by rw [hρ];exact hs)
        rw [hρ] at this;exact this
     |1,_=>exact .v _
def tA:List (Nat × Nat)→Nat→Nat→List (Int × Int)
 |[],_,_=>[]
 |(op,n) :: r,i,j=>if op=0 then (List.range n).map (fun (k:Nat)=>(((i + k:Nat):Int),((j + k:Nat):Int))) ++ tA r (i + n) (j + n) else if op=1 then tA r (i + n) j else if op=2 then tA r i (j + n) else tA r i j
def qPw (a b:List ByteArray):List (Int × Int):=tA (hD a b) 0 0
abbrev zKg (l:List (Nat × Nat)):Row:=.sl true 71 2 (xW l)
abbrev zBu (l:List (Int × Int)):Row:=.sl true 59 2 (lW l)
set_option maxHeartbeats 1000000 in
theorem zH8 (a b : List ByteArray) : HFun Try.prog 21 [.lst false (aD a), .lst false (aD b)] (fun h st =>
    (400 < a.length∨400 < b.length)∧h=.tup [.v (.slice none 0 0),.v (.int .i64 4)]∧st=[] ∨
    a.length≤400∧b.length≤400∧h=.tup [.own 0,.v (.int .i64 0)]∧st=[(0,zBu (qPw a b))]):=by
  refine rT (N:=72) Try.func21 rfl Try.ntmps21 Try.results21 (by simp) ?_
  refine zE ?_;refine zJ (fun K hK=>?_);simp (disch:=omega) only [push_cast,↓iC9,simprocAttr];refine hK _ ?_;clear hK K
  refine zE ?_;refine zJ (fun K hK=>?_);simp (disch:=omega) only [push_cast,↓iC9,simprocAttr]
  refine hat 136 zLs (zDc a b) (.cons (dF (aQ _)) (.cons (dF (aQ _)) .nil)) ?_;rintro _ _ (⟨hlim,rfl,rfl⟩|⟨h1,h2,rfl,rfl⟩)
  · with_reducible refine aH ?_;simp (disch:=omega) only [push_cast,↓iC9,simprocAttr]
    refine hK _ ?_;clear hK K;refine zE ?_;refine zE ?_;refine zJ (fun K hK=>?_);simp (disch:=omega) only [push_cast,↓iC9,simprocAttr];refine hK _ ?_;clear hK K
    refine zA ?_;refine yD rfl ?_;refine zE ?_;refine zJ (fun K hK=>?_);simp (disch:=omega) only [push_cast,↓iC9,simprocAttr];refine hK _ ?_;clear hK K
    refine zA ?_;refine zW ?_;refine zK ?_;simp only [yA,yM,yH,yE,aR,bT,yK,yJ,zS,zM,Nat.reduceEqDiff,reduceIte,reduceCtorEq];exact tD (.inl ⟨hlim,rfl,rfl⟩)
  · with_reducible refine aH ?_;simp (disch:=omega) only [push_cast,↓iC9,simprocAttr]
    refine hK _ ?_;clear hK K;refine zE ?_;refine zE ?_;refine zJ (fun K hK=>?_);simp (disch:=omega) only [push_cast,↓iC9,simprocAttr];refine hK _ ?_;clear hK K
    refine zA ?_;refine yC rfl ?_;refine zC ?_;refine zE ?_;refine zJ (fun K hK=>?_);simp (disch:=omega) only [push_cast,↓iC9,simprocAttr];refine hK _ ?_;clear hK K
    refine zE ?_;refine zJ (fun K hK=>?_);simp (disch:=omega) only [push_cast,↓iC9,simprocAttr];refine hK _ ?_;clear hK K
    refine zE ?_;refine zE ?_;refine zJ (fun K hK=>?_);simp (disch:=omega) only [push_cast,↓iC9,simprocAttr,qBr];refine hK _ ?_;clear hK K
    obtain ⟨hlen,hcnt⟩:=qXv a b
    have hd:qPw a b=[] ++ tA ((hD a b).drop 0) 0 0:=rfl
    generalize hD a b=l at *
    have hcnt:∀ k (hk:k < l.length),l[k].2≤800:=fun k hk=>by have:=hcnt k hk;omega
    have hlen:l.length≤800:=by omega
    generalize qPw a b=P at *
    refine zA ?_;refine zD ?_;refine fS (fun x:Nat × Nat × Nat × List (Int × Int)=>⟨[(8,.own 184),(9,.v (.int .i64 x.2.1)),(10,.v (.int .i64 x.2.2.1)),(24,.own 136),(25,.v (.int .i64 l.length)),(26,.v (.int .i64 x.1))],[(136,zKg l),(184,zBu x.2.2.2)]⟩)
      (fun x=>x.1≤l.length∧x.2.1≤x.1 * 800∧x.2.2.1≤x.1 * 800∧x.2.2.2.length≤x.1 * 800∧P=x.2.2.2 ++ tA (l.drop x.1) x.2.1 x.2.2.1) (fun x=>l.length - x.1) [8,9,10,24,25,26] [136,184] (0,0,0,[]) rfl
      ⟨Nat.zero_le _,Nat.zero_le _,Nat.zero_le _,Nat.zero_le _,hd⟩ ?_
    rintro ⟨n,i,j,out⟩ ⟨hn,hi,hj,ho,hP⟩;simp only at hn hi hj ho hP;refine zE ?_;refine zJ (fun K hK=>?_);simp (disch:=omega) only [push_cast,↓iC9,simprocAttr];refine hK _ ?_;clear hK K
    refine zE ?_;refine lM rfl (fun hlt=>?_) (fun hge=>?_)
    · have hnl:n < l.length:=by simpa using hlt
      have hc:=hcnt n hnl
      rw [List.drop_eq_getElem_cons hnl] at hP;obtain ⟨op,c,hx⟩:∃ op c,l[n]=(op,c):=⟨l[n].1,l[n].2,rfl⟩;rw [hx] at hP hc;simp only at hc;refine zC ?_;refine zE ?_;refine zD ?_;refine zE ?_;refine zJ (fun K hK=>?_);simp (disch:=omega) only [push_cast,↓iC9,simprocAttr,qBr,zCe,hx];refine hK _ ?_;clear hK K
      refine zE ?_;refine zJ (fun K hK=>?_);simp (disch:=omega) only [push_cast,↓iC9,simprocAttr];refine hK _ ?_;clear hK K
      by_cases o0:op=0
      · subst o0
        refine zA ?_;refine zD ?_;refine zE ?_;refine zJ (fun K hK=>?_);simp (disch:=omega) only [push_cast,↓iC9,simprocAttr];refine hK _ ?_;clear hK K
        refine zA ?_;refine yD rfl ?_;refine zE ?_;refine zE ?_;refine zJ (fun K hK=>?_);simp (disch:=omega) only [push_cast,↓iC9,simprocAttr];refine hK _ ?_;clear hK K
        refine yB [8,9,10,12,24,25,26,35,36] [96,136,184] (by simp only [zZ,zR,zP,zQ,zN,zS,zM,zX,zU,Nat.reduceEqDiff,reduceIte];exact rfl) ?_
        refine zD ?_;refine fS (fun x:Nat × List (Int × Int)=>⟨[(8,.own 184),(9,.v (.int .i64 i)),(10,.v (.int .i64 j)),(12,.ptr 96 2 0 0),(24,.own 136),(25,.v (.int .i64 l.length)),(26,.v (.int .i64 n)),(35,.v (.int .i64 c)),(36,.v (.int .i64 x.1))],[(96,.bx true 71 [.v (.int .i64 (0:Nat)),.v (.int .i64 c)]),(136,zKg l),(184,zBu x.2)]⟩)
          (fun x=>x.1≤c∧x.2=out ++ (List.range x.1).map (fun (k:Nat)=>(((i + k:Nat):Int),((j + k:Nat):Int)))) (fun x=>c - x.1) [8,9,10,12,24,25,26,35,36] [96,136,184] (0,out) rfl
          ⟨Nat.zero_le _,by simp⟩ ?_
        rintro ⟨k,out'⟩ ⟨hk,hout⟩;simp only at hk hout
        have hol:out'.length≤640000 + 800:=by rw [hout];simp;omega
        refine zE ?_;refine zJ (fun K hK=>?_);simp (disch:=omega) only [push_cast,↓iC9,simprocAttr];refine hK _ ?_;clear hK K
        refine zE ?_;refine lM rfl (fun hlt2=>?_) (fun hge2=>?_)
        · have hkc:k < c:=by simpa using hlt2
          refine zC ?_;refine zE ?_;refine zD ?_;refine zE ?_;refine zJ (fun K hK=>?_);simp (disch:=omega) only [push_cast,↓iC9,simprocAttr];refine hK _ ?_;clear hK K
          refine zA ?_;refine zJ (fun K hK=>?_);simp (disch:=omega) only [push_cast,↓iC9,simprocAttr,nN,qKe];refine hK _ ?_;clear hK K
          refine zB ?_;refine zA ?_;refine zJ (fun K hK=>?_);simp (disch:=omega) only [push_cast,↓iC9,simprocAttr];refine hK _ ?_;clear hK K
          refine zA ⟨(k + 1,out' ++ [((i:Int) + (k:Int),(j:Int) + (k:Int))]),rfl,⟨hkc,?_⟩,by show c - (k + 1) < c - k;omega⟩
          rw [hout,List.range_succ,List.map_append,List.append_assoc];rfl
        · have hkc : k = c := by have : c ≤ k := by simpa using hge2
                                 omega
          subst hkc;refine zT ?_;refine zG ?_;refine zG ?_;refine zH ?_;refine zE ?_;refine zJ (fun K hK=>?_);simp (disch:=omega) only [push_cast,↓iC9,simprocAttr];refine hK _ ?_;clear hK K
          refine zA ?_;refine zJ (fun K hK=>?_);simp (disch:=omega) only [push_cast,↓iC9,simprocAttr];refine hK _ ?_;clear hK K
          refine zB ?_;refine zB ?_;refine zA ?_;refine zJ (fun K hK=>?_);simp (disch:=omega) only [push_cast,↓iC9,simprocAttr];refine hK _ ?_;clear hK K
          refine zA ⟨(n + 1,i + k,j + k,out'),rfl,⟨hnl,by show i + k≤(n + 1) * 800;omega,by show j + k≤(n + 1) * 800;omega,by show out'.length≤(n + 1) * 800;rw [hout];simp;omega,?_⟩,by show l.length - (n + 1) < l.length - n;omega⟩
          rw [hP,tA,if_pos rfl,hout,List.append_assoc]
      · refine zA ?_;refine zD ?_;refine zE ?_;refine zJ (fun K hK=>?_);simp (disch:=omega) only [push_cast,↓iC9,simprocAttr];refine hK _ ?_;clear hK K
        refine zA ?_;refine yC rfl ?_
        by_cases o1:op=1
        · subst o1
          refine zE ?_;refine zJ (fun K hK=>?_);simp (disch:=omega) only [push_cast,↓iC9,simprocAttr];refine hK _ ?_;clear hK K
          refine zA ?_;refine yD rfl ?_;refine zJ (fun K hK=>?_);simp (disch:=omega) only [push_cast,↓iC9,simprocAttr];refine hK _ ?_;clear hK K
          refine zB ?_;refine zB ?_;refine zA ?_;refine zJ (fun K hK=>?_);simp (disch:=omega) only [push_cast,↓iC9,simprocAttr];refine hK _ ?_;clear hK K
          refine zA ⟨(n + 1,i + c,j,out),rfl,⟨hnl,by show i + c≤(n + 1) * 800;omega,by show j≤(n + 1) * 800;omega,by show out.length≤(n + 1) * 800;omega,?_⟩,by show l.length - (n + 1) < l.length - n;omega⟩
          rw [hP,tA,if_neg (by omega),if_pos rfl]
        · refine zE ?_;refine zJ (fun K hK=>?_);simp (disch:=omega) only [push_cast,↓iC9,simprocAttr];refine hK _ ?_;clear hK K
          refine zA ?_;refine yC rfl ?_
          by_cases o2:op=2
          · subst o2
            refine zE ?_;refine zJ (fun K hK=>?_);simp (disch:=omega) only [push_cast,↓iC9,simprocAttr];refine hK _ ?_;clear hK K
            refine zA ?_;refine yD rfl ?_;refine zJ (fun K hK=>?_);simp (disch:=omega) only [push_cast,↓iC9,simprocAttr];refine hK _ ?_;clear hK K
            refine zB ?_;refine zB ?_;refine zA ?_;refine zJ (fun K hK=>?_);simp (disch:=omega) only [push_cast,↓iC9,simprocAttr];refine hK _ ?_;clear hK K
            refine zA ⟨(n + 1,i,j + c,out),rfl,⟨hnl,by show i≤(n + 1) * 800;omega,by show j + c≤(n + 1) * 800;omega,by show out.length≤(n + 1) * 800;omega,?_⟩,by show l.length - (n + 1) < l.length - n;omega⟩
            rw [hP,tA,if_neg (by omega),if_neg (by omega),if_pos rfl]
          · refine zE ?_;refine zJ (fun K hK=>?_);simp (disch:=omega) only [push_cast,↓iC9,simprocAttr];refine hK _ ?_;clear hK K
            refine zA ?_;refine yC rfl ?_;refine zC ?_;refine zB ?_;refine zB ?_;refine zA ?_;refine zJ (fun K hK=>?_);simp (disch:=omega) only [push_cast,↓iC9,simprocAttr];refine hK _ ?_;clear hK K
            refine zA ⟨(n + 1,i,j,out),rfl,⟨hnl,by show i≤(n + 1) * 800;omega,by show j≤(n + 1) * 800;omega,by show out.length≤(n + 1) * 800;omega,?_⟩,by show l.length - (n + 1) < l.length - n;omega⟩
            rw [hP,tA,if_neg o0,if_neg o1,if_neg o2]
    · have hge' : n = l.length := by have : l.length ≤ n := by simpa using hge
                                     omega
      subst hge';refine zT ?_;refine zG ?_;refine zG ?_;refine zH ?_;refine zE ?_;refine zJ (fun K hK=>?_);simp (disch:=omega) only [push_cast,↓iC9,simprocAttr];refine hK _ ?_;clear hK K
      refine zA ?_;refine zW ?_;simp only [yA,yM,yH,yE,aR,bT,yK,yJ,zS,zM,Nat.reduceEqDiff,reduceIte,reduceCtorEq];refine xJ rfl (qF9 _) (.inr ⟨h1,h2,rfl,?_⟩);rw [hP,List.drop_eq_nil_of_le (Nat.le_refl _),tA,List.append_nil]
end Go.Proofs.Ytmgilahhnbopmaa
