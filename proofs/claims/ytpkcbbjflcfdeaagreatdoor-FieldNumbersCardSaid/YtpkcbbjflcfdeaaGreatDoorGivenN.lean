/- The given contracts, together, with that of Number. Conditions: those of the texts named. -/
import Derived.Test.YtpkcbbjflcfdeaaGreatDoorGiven
import Derived.Test.YtpkcbbjflcfdeaaGreatDoorNumber
