/- Numbers of seven bits a byte: what the reader reads is what the definition tells. -/
import Derived.Test.YteapfopaiocpeaaGreatDoorSm
namespace Go.Proofs.YteapfopaiocpeaaGreatDoor
def bz:Nat→Nat→List Nat→Nat×Nat×Nat
 |_,_,[]=>(10,0,0)
 |acc,cnt,c::r=>if cnt=9∧1<c then (20,0,0) else if c<128 then (0,acc+c%128*128^cnt,cnt+1) else bz (acc+c%128*128^cnt) (cnt+1) r
theorem mP (c:PC): ∀(k acc cnt:Nat) (s:PR),s.code=0→cnt≤9→10<k+cnt→
 ((bz acc cnt (c.data.drop s.at_)).1=0→cnt<(bz acc cnt (c.data.drop s.at_)).2.2∧s.cC c true k acc cnt=((bz acc cnt (c.data.drop s.at_)).2.1,{s with at_:=s.at_+((bz acc cnt (c.data.drop s.at_)).2.2-cnt)}))∧
 ((bz acc cnt (c.data.drop s.at_)).1≠0→(s.cC c true k acc cnt).2.code≠0)
 |0,acc,cnt,s,h0,hc,hk=>by omega
 |k+1,acc,cnt,s,h0,hc,hk=>by
  cases e:c.data[s.at_]? with
  |none=>
   have hd:c.data.drop s.at_=[]:=List.drop_eq_nil_iff.2 (List.getElem?_eq_none_iff.1 e)
   have hb:s.byte c=(0,s.bh 10 c.data.length):=by unfold PR.byte;rw [e]
   have hw:(s.bh 10 c.data.length).code=10:=by unfold PR.bh;rw [if_pos h0]
   rw [hd]
   refine ⟨fun h=>by simp [bz] at h,fun _=>?_⟩
   unfold PR.cC
   rw [if_neg (by simpa using h0),hb,if_pos (by rw [hw];decide),hw];decide
  |some b=>
   obtain ⟨hlt,hbe⟩:=List.getElem?_eq_some_iff.1 e
   have hd:c.data.drop s.at_=b::c.data.drop (s.at_+1):=by rw [←hbe];exact (List.getElem_cons_drop ..).symm
   have hb:s.byte c=(b,{s with at_:=s.at_+1}):=by unfold PR.byte;rw [e]
   have hvar:s.cC c true (k+1) acc cnt=if cnt=9∧1<b then (0,({s with at_:=s.at_+1}:PR).bh 20 s.last) else if 128≤b then ({s with at_:=s.at_+1}:PR).cC c true k (acc+b%128*128^cnt) (cnt+1) else (acc+b%128*128^cnt,{s with at_:=s.at_+1}):=by
    rw [PR.cC,if_neg (show ¬s.code≠0 from fun c=>c h0),hb]
    show (if s.code≠0 then _ else _)=_
    rw [if_neg (show ¬s.code≠0 from fun c=>c h0)]
    simp
   have hdec:bz acc cnt (b::c.data.drop (s.at_+1))=if cnt=9∧1<b then (20,0,0) else if b<128 then (0,acc+b%128*128^cnt,cnt+1) else bz (acc+b%128*128^cnt) (cnt+1) (c.data.drop (s.at_+1)):=by rw [bz]
   rw [hd,hdec,hvar]
   by_cases h1:cnt=9∧1<b
   ·rw [if_pos h1,if_pos h1]
    refine ⟨fun h=>by simp at h,fun _=>?_⟩
    have hw:(({s with at_:=s.at_+1}:PR).bh 20 s.last).code=20:=by unfold PR.bh;rw [if_pos h0]
    show (({s with at_:=s.at_+1}:PR).bh 20 s.last).code≠0
    rw [hw];decide
   ·rw [if_neg h1,if_neg h1]
    by_cases h2:b<128
    ·rw [if_neg (show ¬128≤b by omega),if_pos h2]
     refine ⟨fun _=>⟨Nat.lt_succ_self _,?_⟩,fun h=>absurd rfl h⟩
     rw [Nat.add_sub_cancel_left]
    ·rw [if_pos (show 128≤b by omega),if_neg h2]
     have ih:=mP c k (acc+b%128*128^cnt) (cnt+1) {s with at_:=s.at_+1} h0 (by omega) (by omega)
     refine ⟨fun h=>?_,ih.2⟩
     have i1:cnt+1<(bz (acc+b%128*128^cnt) (cnt+1) (c.data.drop (s.at_+1))).2.2:=(ih.1 h).1
     have i2:=(ih.1 h).2
     refine ⟨by omega,?_⟩
     rw [i2]
     have:s.at_+1+((bz (acc+b%128*128^cnt) (cnt+1) (c.data.drop (s.at_+1))).2.2-(cnt+1))=s.at_+((bz (acc+b%128*128^cnt) (cnt+1) (c.data.drop (s.at_+1))).2.2-cnt):=by
      omega
     simp only [this]
end Go.Proofs.YteapfopaiocpeaaGreatDoor
