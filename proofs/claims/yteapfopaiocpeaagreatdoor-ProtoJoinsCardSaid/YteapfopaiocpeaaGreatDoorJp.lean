/- Bytes behind each other are the records of both. -/
import Derived.Test.YteapfopaiocpeaaGreatDoorPr
namespace Go.Proofs.YteapfopaiocpeaaGreatDoor
set_option linter.unusedSimpArgs false
set_option linter.unusedVariables false
theorem qF (b:List Nat): ∀(l:List Nat) (acc cnt:Nat),(bz acc cnt l).1=0→bz acc cnt (l++b)=bz acc cnt l
 |[],acc,cnt,h=>by simp [bz] at h
 |c::r,acc,cnt,h=>by
  have hd: ∀r,bz acc cnt (c::r)=if cnt=9∧1<c then (20,0,0) else if c<128 then (0,acc+c%128*128^cnt,cnt+1) else bz (acc+c%128*128^cnt) (cnt+1) r:=fun r=>by rw [bz]
  rw [List.cons_append,hd,hd]
  rw [hd] at h
  by_cases h1:cnt=9∧1<c
  ·rw [if_pos h1,if_pos h1]
  ·rw [if_neg h1] at h ⊢
   rw [if_neg h1]
   by_cases h2:c<128
   ·rw [if_pos h2,if_pos h2]
   ·rw [if_neg h2] at h ⊢
    rw [if_neg h2]
    exact qF b r _ _ h
theorem ko {l b:List Nat} {n:Nat} (h:n≤l.length):(l++b).drop n=l.drop n++b:=by rw [List.drop_append_of_le_length h]
theorem tY {l b:List Nat} {n:Nat} (h:n≤l.length):(l++b).take n=l.take n:=by rw [List.take_append_of_le_length h]
theorem abK (k:Nat) (l b:List Nat) {x:dm} {r:List Nat} (h:kQ k l=some (x,r)):kQ k (l++b)=some (x,r++b):=by
 unfold kQ at h ⊢
 by_cases k0:k%8=0
 ·rw [if_pos k0] at h ⊢
  by_cases hu:(bz 0 0 l).1≠0
  ·rw [if_pos hu] at h;cases h
  rw [if_neg hu] at h
  obtain ⟨_,_,u3⟩:=gM l 0 0 (by decide) (by decide) (by omega)
  rw [qF b l 0 0 (by omega),if_neg hu,ko (by omega)]
  cases h;rfl
 rw [if_neg k0] at h ⊢
 by_cases k1:k%8=1
 ·rw [if_pos k1] at h ⊢
  by_cases hu:l.length<8
  ·rw [if_pos hu] at h;cases h
  rw [if_neg hu] at h
  rw [if_neg (by rw [List.length_append];omega),ko (by omega),tY (by omega)]
  cases h;rfl
 rw [if_neg k1] at h ⊢
 by_cases k2:k%8=2
 ·rw [if_pos k2] at h ⊢
  by_cases hu:(bz 0 0 l).1≠0∨l.length-(bz 0 0 l).2.2<(bz 0 0 l).2.1
  ·rw [if_pos hu] at h;cases h
  rw [if_neg hu] at h
  have h0:(bz 0 0 l).1=0:=by omega
  obtain ⟨_,_,u3⟩:=gM l 0 0 (by decide) (by decide) h0
  have hl:((l.drop (bz 0 0 l).2.2)).length=l.length-(bz 0 0 l).2.2:=List.length_drop
  rw [qF b l 0 0 h0,if_neg (by rw [List.length_append];omega),ko (by omega),tY (by omega),ko (by omega)]
  cases h;rfl
 rw [if_neg k2] at h ⊢
 by_cases k5:k%8=5
 ·rw [if_pos k5] at h ⊢
  by_cases hu:l.length<4
  ·rw [if_pos hu] at h;cases h
  rw [if_neg hu] at h
  rw [if_neg (by rw [List.length_append];omega),ko (by omega),tY (by omega)]
  cases h;rfl
 rw [if_neg k5] at h
 cases h
theorem abA (l b:List Nat) {x:dm} {r:List Nat} (h:fg l=some (x,r)):fg (l++b)=some (x,r++b):=by
 unfold fg at h ⊢
 by_cases hk:(bz 0 0 l).1≠0∨(bz 0 0 l).2.1<8∨4294967295<(bz 0 0 l).2.1
 ·rw [if_pos hk] at h;cases h
 rw [if_neg hk] at h
 have h0:(bz 0 0 l).1=0:=by omega
 obtain ⟨_,_,u3⟩:=gM l 0 0 (by decide) (by decide) h0
 rw [qF b l 0 0 h0,if_neg hk,ko (by omega)]
 exact abK _ _ b h
theorem acY {k:Nat} {l:List Nat} {x:dm} {r:List Nat} (h:kQ k l=some (x,r)):r.length≤l.length:=by
 unfold kQ at h
 split at h
 ·split at h
  ·cases h
  ·cases h;simp
 ·split at h
  ·split at h
   ·cases h
   ·cases h;simp
  ·split at h
   ·split at h
    ·cases h
    ·cases h;simp
   ·split at h
    ·split at h
     ·cases h
     ·cases h;simp
    ·cases h
theorem tP {l:List Nat} {x:dm} {r:List Nat} (h:fg l=some (x,r)):r.length<l.length:=by
 unfold fg at h
 by_cases hk:(bz 0 0 l).1≠0∨(bz 0 0 l).2.1<8∨4294967295<(bz 0 0 l).2.1
 ·rw [if_pos hk] at h;cases h
 rw [if_neg hk] at h
 obtain ⟨_,u2,u3⟩:=gM l 0 0 (by decide) (by decide) (by omega)
 have:=acY h
 rw [List.length_drop] at this
 omega
theorem zW (b:List Nat) {Y:List dm}: ∀(k m:Nat) (l:List Nat) {X:List dm},l.length<k→b.length<m→c7 k l=some X→c7 m b=some Y→ ∀n,(l++b).length<n→c7 n (l++b)=some (X++Y)
 |0,m,l,X,hk,_,_,_,_,_=>by omega
 |k+1,m,l,X,hk,hm,h,hb,n,hn=>by
  have fuel: ∀(m n:Nat) (b:List Nat),b.length<m→b.length<n→c7 m b=c7 n b:=by
   intro m
   induction m with
   |zero=>intro n b h;omega
   |succ m ih=>
    intro n b h1 h2
    obtain ⟨n,rfl⟩: ∃q,n=q+1:=⟨n-1,by omega⟩
    unfold c7
    by_cases e:b=[]
    ·rw [if_pos e,if_pos e]
    rw [if_neg e,if_neg e]
    cases e1:fg b with
    |none=>rfl
    |some xr=>
     obtain ⟨x,r⟩:=xr
     have:=tP e1
     show (c7 m r).map _=(c7 n r).map _
     rw [ih n r (by omega) (by omega)]
  unfold c7 at h
  by_cases e:l=[]
  ·rw [if_pos e] at h
   cases h
   subst e
   rw [List.nil_append,fuel n m b (by simpa using hn) hm,hb];rfl
  rw [if_neg e] at h
  cases e1:fg l with
  |none=>rw [e1] at h;cases h
  |some xr=>
   obtain ⟨x,r⟩:=xr
   rw [e1] at h
   have hr:=tP e1
   cases e2:c7 k r with
   |none=>
    have:(c7 k r).map (x:: ·)=some X:=h
    rw [e2] at this;cases this
   |some X'=>
    obtain rfl:x::X'=X:=by
     have:(c7 k r).map (x:: ·)=some X:=h
     rw [e2] at this
     simpa using this
    obtain ⟨n,rfl⟩: ∃q,n=q+1:=⟨n-1,by omega⟩
    unfold c7
    rw [if_neg (by simp [e]),abA l b e1]
    show (c7 n (r++b)).map _=_
    rw [zW b k m r (by omega) hm e2 hb n (by rw [List.length_append] at hn ⊢;omega)]
    rfl
end Go.Proofs.YteapfopaiocpeaaGreatDoor
